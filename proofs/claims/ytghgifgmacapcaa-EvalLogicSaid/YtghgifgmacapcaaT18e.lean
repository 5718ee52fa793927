/- The document's kinds, walked. -/
import Derived.Test.YtghgifgmacapcaaT18d
set_option linter.unusedSimpArgs false
set_option linter.unusedVariables false
set_option maxRecDepth 100000
namespace Go.Proofs.Ytghgifgmacapcaa
open Go.RowKit
namespace V
set_option maxHeartbeats 4000000
def Op.find (s : Bs) : Option Op := [Op.val, .col, .count, .not, .neg, .isnull, .sum, .min, .max, .or, .and, .eq, .ne, .lt, .le, .gt, .ge, .add, .sub, .cat, .mul, .div, .rem].find? (fun o => decide (o.str = s))
theorem Op.find_str {s : Bs} {o : Op} (h : Op.find s = some o) : o.str = s := by
  have := List.find?_some h
  simpa using this
theorem Op.is {op o : Op} {s : Bs} (h : decide (op.str = s) = true) (ho : Op.find s = some o) : op = o :=
  Op.str_inj ((of_decide_eq_true h).trans (Op.find_str ho).symm)
theorem len2 {α : Type} {l : List α} (h : l.length = 2) : ∃ a b, l = [a, b] := by
  match l, h with
  | [a, b], _ => exact ⟨a, b, rfl⟩
def kok (n : Int) : Prop := n = 0 ∨ n = 1 ∨ n = 2
theorem isV_kok {v : Vl} (h : isV v = true) : kok v.kind := by
  unfold isV at h
  unfold kok
  by_cases h0 : v.kind = 0
  · exact .inl h0
  · by_cases h1 : v.kind = 1
    · exact .inr (.inl h1)
    · by_cases h2 : v.kind = 2
      · exact .inr (.inr h2)
      · simp [h0, h1, h2] at h
theorem placeC_at {cols : List Cl} {name : Bs} (h : ¬ placeC cols name < 0) : ∃ c, cols[(placeC cols name).toNat]? = some c ∧ cols.getD (placeC cols name).toNat ⟨[], 0, 0⟩ = c ∧ c ∈ cols := by
  have h1 := idxI_ge (fun c : Cl => decide (c.name = name)) cols
  rw [← placeC_idx] at h1
  have h2 := List.getElem?_eq_getElem (l := cols) (i := (placeC cols name).toNat) (by omega)
  exact ⟨_, h2, by rw [List.getD_eq_getElem?_getD, h2]; rfl, List.mem_of_getElem? h2⟩
theorem kstep_kok {cols : List Cl} {may : Bool} {op : Op} {v : Vl} {name : Bs} {r : List Int × Int} (hv : kok v.kind) (hc : ∀ c ∈ cols, kok c.kind) (hr : ∀ k ∈ r.1, kok k) : kok (kstep cols may op v name r).1 := by
  have k0 : kok 0 := .inl rfl
  have k1 : kok 1 := .inr (.inl rfl)
  have k2 : kok 2 := .inr (.inr rfl)
  unfold kstep
  repeat' split
  all_goals first | exact k0 | exact k1 | exact k2 | exact hv | skip
  · obtain ⟨l, e⟩ := r
    cases l with
    | nil => exact k0
    | cons a l => exact hr a (by simp)
  · rename_i h
    obtain ⟨c, _, h2, h3⟩ := placeC_at h
    dsimp only
    rw [h2]; exact hc c h3
mutual
theorem kindX_kok {cols : List Cl} (hc : ∀ c ∈ cols, kok c.kind) : ∀ (may : Bool) (x : Ex), WfX x → kok (kindX cols may x).1
  | may, .mk op v name kids, h => by
    rw [kindX_step]
    exact kstep_kok (isV_kok h.inv.2.1) hc (kindsX_kok hc _ kids h.inv.2.2.2)
theorem kindsX_kok {cols : List Cl} (hc : ∀ c ∈ cols, kok c.kind) : ∀ (may : Bool) (l : List Ex), (∀ y ∈ l, WfX y) → ∀ k ∈ (kindsX cols may l).1, kok k
  | _, [], _ => by simp [kindsX]
  | may, x :: l, h => by
    have h1 := kindX_kok hc may x (h x (by simp))
    have h2 := kindsX_kok hc may l (fun y hy => h y (by simp [hy]))
    rw [kindsX]
    dsimp only
    split
    · simp
    · split
      · simp
      · intro k hk
        simp only [List.mem_cons] at hk
        rcases hk with rfl | hk
        · exact h1
        · exact h2 k hk
end
theorem rkind_q (N : Nat) : ∀ (x : Ex) (cs : List Value) {R : Hp} (cols : List Cl) (vc : Value) (may : Bool), SizeOf.sizeOf x ≤ N → WfX x → RepX R x cs → FrX colE R cols vc → (∀ c ∈ cols, kok c.kind) → QTri Try.prog 36 [.agg ⟨cs⟩, vc, .bool may] R [] (tupOf [.int .i64 (kindX cols may x).1, .int .i64 (kindX cols may x).2]) := by
  induction N using Nat.strongRecOn with
  | _ N ih =>
  intro x cs R cols vc may hN hwf hx hcols hck
  have hvc := hcols.one
  obtain ⟨op, v, name, kids, vk, rfl, rfl, hk⟩ := hx.inv
  have hcall : ∀ (m : Bool) y cy, y ∈ kids → RepX R y cy → QTri Try.prog 36 [.agg ⟨cy⟩, vc, .bool m] R [] (tupOf [.int .i64 (kindX cols m y).1, .int .i64 (kindX cols m y).2]) := fun m y cy hm hy =>
    ih (SizeOf.sizeOf y) (by have := List.sizeOf_lt_of_mem hm; simp at hN; omega) y cy cols vc m (Nat.le_refl _) (hwf.inv.2.2.2 y hm) hy hcols hck
  clear ih
  obtain ⟨q, cap, rfl, hcap, hcm⟩ := hk.shape
  have har := hwf.inv.1
  have hlb : kids.length ≤ 2 := by rw [har]; cases op <;> decide
  obtain ⟨m, hm⟩ : ∃ m, m = (may && decide (¬ (op = .sum ∨ op = .min ∨ op = .max))) := ⟨_, rfl⟩
  have hst := kindX_step cols may op v name kids
  have hme : kindsX cols (may && decide (¬ fam op = 5)) kids = kindsX cols m kids := by
    by_cases hc : op = .count
    · subst hc
      have : kids = [] := List.eq_nil_of_length_eq_zero har
      subst this; simp [kindsX]
    · congr 1; rw [hm]; cases op <;> first | rfl | exact absurd rfl hc
  have hkk := kindsX_kok hck m kids hwf.inv.2.2.2
  rw [hme] at hst
  have dsum : op.str = [115, 117, 109] ↔ op = .sum := by cases op <;> decide
  have dmin : op.str = [109, 105, 110] ↔ op = .min := by cases op <;> decide
  have dmax : op.str = [109, 97, 120] ↔ op = .max := by cases op <;> decide
  refine Tri.q2 ?_
  unfold exC
  refine tri_of Try.func36 rfl Try.ntmps36 rfl (fun σ F Q hret hend hpan => ?_)
  try simp only [List.cons_append, List.nil_append]
  refine cj_env (eL 0 rfl (eL 1 rfl (eL 2 rfl eN))) ?_
  refine cj_seq (fun K1 hK1 => ?_)
  refine cj_region ?_
  refine rj_box (wn0 rfl) rfl rfl rfl (fun b3 => ?_)
  refine rv0 rfl rfl rfl (y_assign rfl) ?_
  refine rv0 rfl rfl rfl (y_assign rfl) ?_
  refine rj_nil ?_
  refine hK1 _ _ _ ?_
  refine cj_env (eL 1 rfl (eL 2 rfl (eL 3 rfl eN))) ?_
  refine cj_seq (fun K2 hK2 => ?_)
  refine cj_region ?_
  refine rv0 rfl rfl rfl (y_assign rfl) ?_
  refine rj_add (A := slc 3 1 (.slice none 0 0) 0 (intsV [])) (slc_nil _ _) ?_
  refine rj_nil ?_
  refine hK2 _ _ _ ?_
  refine cj_seq (fun K3 hK3 => ?_)
  refine cj_region ?_
  refine rv0 rfl rfl rfl (y_move rfl) ?_
  refine rv0 rfl rfl rfl (y_assign rfl) ?_
  refine rj_nil ?_
  refine hK3 _ _ _ ?_
  refine cj_seq (fun K4 hK4 => ?_)
  have hJ5 : ∀ (x : Unit), True → EJ ⟨Try.prog, 134, σ⟩ K4 [(1, vc), (2, .bool may), (3, .pointer (some ⟨b3, 0, none⟩)), (8, .slice none 0 0), (9, .bool m)] R (slc 3 1 (.slice none 0 0) 0 (intsV []) :: blk b3 [.string (str op.str), .int .i64 v.kind, .int .i64 v.n, .string (str v.s), .string (str name), .slice q kids.length cap] 29 :: F) := by
   rintro ⟨⟩ hI5
   try dsimp only
   refine hK4 _ _ _ ?_
   refine cj_seq (fun K5 hK5 => ?_)
   refine cj_seq (fun K6 hK6 => ?_)
   refine cj_region ?_
   refine rv0 rfl rfl rfl (y_assign rfl) ?_
   refine rj_nil ?_
   refine hK6 _ _ _ ?_
   refine cj_block ?_
   refine cj_env (E' := (fun (x : Nat × Value) => [(1, vc), (2, .bool may), (3, .pointer (some ⟨b3, 0, none⟩)), (8, x.2), (9, .bool m), (10, .int .i64 (x.1 : Int))]) (0, .slice none 0 0)) (eC rfl (eC rfl (eC rfl (eC rfl (eC rfl (eC rfl eN)))))) ?_
   refine cj_sub (M := (fun (x : Nat × Value) => slc 3 1 x.2 (kindsX cols m (kids.take x.1)).1.length (intsV (kindsX cols m (kids.take x.1)).1) :: blk b3 [.string (str op.str), .int .i64 v.kind, .int .i64 v.n, .string (str v.s), .string (str name), .slice q kids.length cap] 29 :: F) (0, .slice none 0 0)) (by (repeat (first|exact zR _|(apply zP;focus (repeat (first|exact zH _|apply zT)))|apply zD|exact zA _ _))) ?_
   refine cj_loop (fun (x : Nat × Value) => [(1, vc), (2, .bool may), (3, .pointer (some ⟨b3, 0, none⟩)), (8, x.2), (9, .bool m), (10, .int .i64 (x.1 : Int))]) (fun (x : Nat × Value) => R) (fun (x : Nat × Value) => slc 3 1 x.2 (kindsX cols m (kids.take x.1)).1.length (intsV (kindsX cols m (kids.take x.1)).1) :: blk b3 [.string (str op.str), .int .i64 v.kind, .int .i64 v.n, .string (str v.s), .string (str name), .slice q kids.length cap] 29 :: F) (fun (x : Nat × Value) => x.1 ≤ kids.length ∧ (kindsX cols m (kids.take x.1)).2 = 0 ∧ x.2.oneCell' = true) (fun (x : Nat × Value) => kids.length - x.1) (0, .slice none 0 0) (⟨by simp, by simp [kindsX], rfl⟩) ?_
   rintro ⟨i, vl⟩ ⟨hi, hall, hvo⟩
   try dsimp only
   dsimp only at hi hall hvo
   refine cj_seq (fun K7 hK7 => ?_)
   refine cj_seq (fun K8 hK8 => ?_)
   refine cj_region ?_
   refine rv0 rfl rfl rfl (y_move rfl) ?_
   refine rv0 rfl rfl rfl (y_fieldAddr (k := 5) Try.underlying29 rfl (n := 1) (by decide) Try.sizeOf27 rfl) ?_
   first | refine rv0 rfl rfl rfl (y_load ⟨Try.isAgg27, Try.sizeOf27⟩ rfl (by (repeat (first|exact zH _|apply zT));done) rfl) ?_ | refine rv0 rfl rfl rfl (y_load_slc ⟨Try.isAgg27, Try.sizeOf27⟩ rfl (by (repeat (first|exact zH _|apply zT));done) rfl) ?_
   first | refine rv0 rfl rfl rfl (y_len_sl Try.underlying27 rfl) ?_ | refine rv0 rfl rfl rfl (y_len_slc Try.underlying27 rfl (by (repeat (first|exact zH _|apply zT));done)) ?_
   refine rv0 rfl rfl rfl (y_lss rfl rfl) ?_
   refine rj_nil ?_
   refine hK8 _ _ _ ?_
   refine cj_env (eL 1 rfl (eL 2 rfl (eL 3 rfl (eL 8 rfl (eL 9 rfl (eL 10 rfl (eL 32 rfl eN))))))) ?_
   refine cj_condt rfl (fun hc32 => ?_) (fun hc32 => ?_)
   ·try simp only [dT, dF, nT, nF, tF, fT] at hc32
    refine cj_skip ?_
    refine hK7 _ _ _ ?_
    refine cj_seq (fun K10 hK10 => ?_)
    refine cj_block ?_
    refine cj_seq (fun K11 hK11 => ?_)
    refine cj_region ?_
    have hi2 : i < kids.length := by (try simp at hc32); omega
    obtain ⟨y, hy⟩ : ∃ x, kids[i]? = some x := ⟨kids[i]'(by omega), by simp⟩
    obtain ⟨b, off, cap', cy, he, hrep, hcl, hcell⟩ := hk.at hy
    obtain ⟨rfl, rfl⟩ : q = some ⟨b, off, none⟩ ∧ cap = cap' := by cases he; exact ⟨rfl, rfl⟩
    refine rv0 rfl rfl rfl (y_fieldAddr (k := 5) Try.underlying29 rfl (n := 1) (by decide) Try.sizeOf27 rfl) ?_
    first | refine rv0 rfl rfl rfl (y_load ⟨Try.isAgg27, Try.sizeOf27⟩ rfl (by (repeat (first|exact zH _|apply zT));done) rfl) ?_ | refine rv0 rfl rfl rfl (y_load_slc ⟨Try.isAgg27, Try.sizeOf27⟩ rfl (by (repeat (first|exact zH _|apply zT));done) rfl) ?_
    refine rv0 rfl rfl rfl (y_move rfl) ?_
    first | refine rv0 rfl rfl rfl (y_indexAddr Try.underlying27 Try.sizeOf29 rfl rfl (by (first | omega | (dsimp only; omega) | (simp; done) | (simp; omega)))) ?_ | refine rv0 rfl rfl rfl (y_index_slc Try.underlying27 Try.sizeOf29 rfl rfl (by (repeat (first|exact zH _|apply zT));done) (by (first | omega | (dsimp only; omega) | (simp; done) | (simp; omega)))) ?_
    refine rv0 rfl rfl rfl ((y_loads_ro ⟨Try.isAgg29, Try.sizeOf29⟩ (vs := cy) hcl rfl (fun j u hj => hcell j u hj))) ?_
    refine rv0 rfl rfl rfl (y_move rfl) ?_
    refine rv0 rfl rfl rfl (y_move rfl) ?_
    refine rv0 rfl rfl rfl (y_call Try.call36 rfl (hcall m y cy (List.mem_of_getElem? hy) hrep) (by (repeat (first|exact zN _|(apply zS;focus (repeat (first|exact zH _|apply zT))))))) ?_
    refine rv0 rfl rfl rfl (y_move rfl) ?_
    refine rv0 rfl rfl rfl (y_extract rfl rfl) ?_
    refine rv0 rfl rfl rfl (y_extract rfl rfl) ?_
    refine rv0 rfl rfl rfl (y_assign rfl) ?_
    refine rv0 rfl rfl rfl (y_assign rfl) ?_
    refine rj_nil ?_
    refine hK11 _ _ _ ?_
    refine cj_env (eL 1 rfl (eL 2 rfl (eL 3 rfl (eL 8 rfl (eL 9 rfl (eL 10 rfl (eL 11 rfl (eL 12 rfl eN)))))))) ?_
    refine cj_seq (fun K12 hK12 => ?_)
    refine cj_seq (fun K13 hK13 => ?_)
    refine cj_region ?_
    refine rv0 rfl rfl rfl (y_move rfl) ?_
    refine rv0 rfl rfl rfl (y_neq rfl rfl) ?_
    refine rj_nil ?_
    refine hK13 _ _ _ ?_
    refine cj_condt rfl (fun hc47 => ?_) (fun hc47 => ?_)
    ·have hk0 : ¬ (kindX cols m y).2 = 0 := by simpa using hc47
     have her := kindsX_err hall hy hk0
     refine cj_seq (fun K15 hK15 => ?_)
     refine cj_region ?_
     refine rv0 rfl rfl rfl (y_move rfl) ?_
     refine rv0 rfl rfl rfl (y_assign rfl) ?_
     refine rv0 rfl rfl rfl (y_assign rfl) ?_
     refine rj_nil ?_
     refine hK15 _ _ _ ?_
     refine cj_env (eL 6 rfl (eL 7 rfl eN)) ?_
     refine cj_ret ?_
     refine hret _ _ _ ?_
     apply ej_ret Try.results36 (.cons (rv_tmp rfl) (.cons (rv_tmp rfl) .nil)) _ [] (by (first | exact Hp.le_refl _ | assumption | exact Hp.le_trans ‹_› ‹_›)) rfl
     case hp => refine ⟨?_, rfl⟩; rw [hst, her]; simp [kstep, tupOf, hk0]
     case hS => (repeat (first|exact zR _|(apply zP;focus (repeat (first|exact zH _|apply zT)))|apply zD|exact zA _ _))
    ·have hk0 : (kindX cols m y).2 = 0 := by simpa using hc47
     have hsn := kindsX_snoc hall hy hk0
     have hkl : (kindsX cols m (kids.take i)).1.length = i := by rw [kindsX_len hall]; simp; omega
     refine cj_skip ?_
     refine hK12 _ _ _ ?_
     refine cj_env (eL 1 rfl (eL 2 rfl (eL 3 rfl (eL 8 rfl (eL 9 rfl (eL 10 rfl (eL 11 rfl eN))))))) ?_
     refine cj_region ?_
     refine rv0 rfl rfl rfl (y_move rfl) ?_
     refine rv0 rfl rfl rfl (y_move rfl) ?_
     refine rj_buildSlice (sz := 1) (wn0 rfl) rfl Try.underlying88 Try.sizeOf3 Try.zeroValue3 rfl rfl rfl (by decide) (by decide) (fun bz => ?_)
     refine rj_append (sz := 1) (by_ := 8) ⟨Try.underlying88, _, _, rfl, rfl, rfl, rfl, rfl⟩ (wn0 rfl) rfl rfl rfl (by (repeat (first|exact zH _|apply zT));done) (src_slc (xs := [.int .i64 (kindX cols m y).1]) Try.underlying88 (by (repeat (first|exact zH _|apply zT));done) (by (first | (simp [Value.oneCell']; done) | (intro u hu; simp only [List.mem_cons, List.not_mem_nil, or_false] at hu; rcases hu with rfl | rfl | rfl | rfl <;> first | rfl | assumption)))) rfl (by (first | omega | (dsimp only; omega) | (simp; done) | (simp; omega))) (by simp only [maxLen]; omega) (fun v52 ho52 hh52 => ?_)
     rw [show intsV (kindsX cols m (kids.take i)).1 ++ [Value.int .i64 (kindX cols m y).1] = intsV (kindsX cols m (kids.take (i + 1))).1 by rw [hsn]; simp [intsV], show (kindsX cols m (kids.take i)).1.length + 1 = (kindsX cols m (kids.take (i + 1))).1.length by rw [hsn]; simp]
     refine rv0 rfl rfl rfl (y_assign rfl) ?_
     refine rj_nil ?_
     refine hK10 _ _ _ ?_
     refine cj_env (eL 1 rfl (eL 2 rfl (eL 3 rfl (eL 8 rfl (eL 9 rfl (eL 10 rfl eN)))))) ?_
     refine cj_region ?_
     refine rv0 rfl rfl rfl (y_move rfl) ?_
     first | refine rv0 rfl rfl rfl (y_add64 rfl rfl (by (first | omega | (dsimp only; omega) | (simp; done) | (simp; omega)))) ?_ | refine rv0 rfl rfl rfl (y_add rfl rfl) ?_
     refine rv0 rfl rfl rfl (y_assign rfl) ?_
     refine rj_nil ?_
     refine ej_on (q' := roundK _ _ _ _ _ _ _) rfl ?_
     refine ej_round ((i + 1, v52)) (⟨by dsimp only; omega, by dsimp only; rw [kindsX_snoc hall hy hk0], by assumption⟩) (by dsimp only; omega) (eC rfl (eC rfl (eC rfl (eC rfl (eC rfl (eC rfl eN)))))) rfl (by (repeat (first|exact zR _|(apply zP;focus (repeat (first|exact zH _|apply zT)))|apply zD|exact zA _ _)))
   ·try simp only [dT, dF, nT, nF, tF, fT] at hc32
    refine cj_exit ?_
    refine hK5 _ _ _ ?_
    refine cj_env (eL 1 rfl (eL 2 rfl (eL 3 rfl (eL 8 rfl eN)))) ?_
    refine cj_seq (fun K16 hK16 => ?_)
    refine cj_seq (fun K17 hK17 => ?_)
    refine cj_region ?_
    obtain rfl : i = kids.length := by (try simp at hc32); omega
    have hke : kids.take kids.length = kids := by simp
    refine rj_freeze (e := 3) (sz := 1) (n := (kindsX cols m (kids.take kids.length)).1.length) (v := vl) (xs := intsV (kindsX cols m (kids.take kids.length)).1) (by (repeat (first|exact zH _|apply zT));done) (fun R2 hR2 hfr1 hxl => ?_)
    rw [hke] at hall hfr1
    have hfr := intsFr hfr1
    have hkl := kindsX_len hall
    obtain ⟨ks, er, hks⟩ : ∃ ks er, kindsX cols m kids = (ks, er) := ⟨_, _, rfl⟩
    rw [hks] at hst hall hfr hkl hkk
    simp only at hall hfr hkl hkk
    subst hall
    have hcols3 := hcols.mono hR2
    have hfo := hfr.one
    refine rv0 rfl rfl rfl (y_fieldAddr (k := 0) Try.underlying29 rfl (n := 1) (by decide) Try.sizeOf9 rfl) ?_
    first | refine rv0 rfl rfl rfl (y_load ⟨Try.isAgg9, Try.sizeOf9⟩ rfl (by (repeat (first|exact zH _|apply zT));done) rfl) ?_ | refine rv0 rfl rfl rfl (y_load_slc ⟨Try.isAgg9, Try.sizeOf9⟩ rfl (by (repeat (first|exact zH _|apply zT));done) rfl) ?_
    refine rj_nil ?_
    refine hK17 _ _ _ ?_
    refine cj_block ?_
    refine cj_seq (fun K18 hK18 => ?_)
    refine cj_region ?_
    refine rv0 rfl rfl rfl (y_seql rfl rfl) ?_
    refine rv0 rfl rfl rfl (y_assign rfl) ?_
    refine rj_nil ?_
    refine hK18 _ _ _ ?_
    refine cj_condt rfl (fun hc55 => ?_) (fun hc55 => ?_)
    ·obtain rfl := Op.is hc55 rfl
     refine cj_seq (fun K20 hK20 => ?_)
     refine cj_region ?_
     refine rv0 rfl rfl rfl (y_fieldAddr (k := 1) Try.underlying29 rfl (n := 3) (by decide) Try.sizeOf26 rfl) ?_
     refine rv0 rfl rfl rfl (y_fieldAddr (k := 0) Try.underlying26 rfl (n := 1) (by decide) Try.sizeOf3 rfl) ?_
     first | refine rv0 rfl rfl rfl (y_load ⟨Try.isAgg3, Try.sizeOf3⟩ rfl (by (repeat (first|exact zH _|apply zT));done) rfl) ?_ | refine rv0 rfl rfl rfl (y_load_slc ⟨Try.isAgg3, Try.sizeOf3⟩ rfl (by (repeat (first|exact zH _|apply zT));done) rfl) ?_
     refine rv0 rfl rfl rfl (y_assign rfl) ?_
     refine rv0 rfl rfl rfl (y_assign rfl) ?_
     refine rj_nil ?_
     refine hK20 _ _ _ ?_
     refine cj_env (eL 6 rfl (eL 7 rfl eN)) ?_
     refine cj_ret ?_
     refine hret _ _ _ ?_
     apply ej_ret Try.results36 (.cons (rv_tmp rfl) (.cons (rv_tmp rfl) .nil)) _ [] (by (first | exact Hp.le_refl _ | assumption | exact Hp.le_trans ‹_› ‹_›)) rfl
     case hp => refine ⟨?_, rfl⟩; rw [hst]; clear hst hme hwf hx hcall hk; first | (unfold kstep; simp only; rw [if_neg (by simp), if_pos h73]; simp_all [tupOf]; done) | (unfold kstep; simp only; rw [if_neg (by simp), if_neg (by omega), if_pos h85]; rcases hkk _ (by simp : k0 ∈ _) with (rfl|rfl|rfl) <;> rcases hkk _ (by simp : k1 ∈ _) with (rfl|rfl|rfl) <;> simp_all [tupOf] <;> done) | (simp_all [kstep, fam, tupOf]; done) | (rw [kstep]; simp [fam, tupOf, *]; done) | (rcases hop with (rfl|rfl) <;> simp_all [kstep, fam, tupOf] <;> rfl) | (simp_all [kstep, fam, tupOf]; rw [if_neg (by omega)]; exact ⟨rfl, rfl⟩) | (rcases hkk _ (by simp : k0 ∈ _) with (rfl|rfl|rfl) <;> rcases hkk _ (by simp : k1 ∈ _) with (rfl|rfl|rfl) <;> simp_all [kstep, fam, tupOf] <;> done)
     case hS => (repeat (first|exact zR _|(apply zP;focus (repeat (first|exact zH _|apply zT)))|apply zD|exact zA _ _))
    ·try simp only [dT, dF, nT, nF, tF, fT] at hc55
     refine cj_seq (fun K21 hK21 => ?_)
     refine cj_region ?_
     refine rv0 rfl rfl rfl (y_seql rfl rfl) ?_
     refine rv0 rfl rfl rfl (y_assign rfl) ?_
     refine rj_nil ?_
     refine hK21 _ _ _ ?_
     refine cj_env (eL 1 rfl (eL 2 rfl (eL 3 rfl (eL 8 rfl (eL 54 rfl (eL 60 rfl eN)))))) ?_
     refine cj_condt rfl (fun hc60 => ?_) (fun hc60 => ?_)
     ·obtain rfl := Op.is hc60 rfl
      refine cj_seq (fun K23 hK23 => ?_)
      refine cj_region ?_
      refine rv0 rfl rfl rfl (y_move rfl) ?_
      refine rv0 rfl rfl rfl (y_fieldAddr (k := 4) Try.underlying29 rfl (n := 1) (by decide) Try.sizeOf9 rfl) ?_
      first | refine rv0 rfl rfl rfl (y_load ⟨Try.isAgg9, Try.sizeOf9⟩ rfl (by (repeat (first|exact zH _|apply zT));done) rfl) ?_ | refine rv0 rfl rfl rfl (y_load_slc ⟨Try.isAgg9, Try.sizeOf9⟩ rfl (by (repeat (first|exact zH _|apply zT));done) rfl) ?_
      refine rv0 rfl rfl rfl (y_call Try.call54 rfl (at_q cols vc hcols3 name) (by (repeat (first|exact zN _|(apply zS;focus (repeat (first|exact zH _|apply zT))))))) ?_
      refine rv0 rfl rfl rfl (y_assign rfl) ?_
      refine rj_nil ?_
      refine hK23 _ _ _ ?_
      refine cj_env (eL 1 rfl (eL 13 rfl eN)) ?_
      refine cj_seq (fun K24 hK24 => ?_)
      refine cj_seq (fun K25 hK25 => ?_)
      refine cj_region ?_
      refine rv0 rfl rfl rfl (y_move rfl) ?_
      refine rv0 rfl rfl rfl (y_lss rfl rfl) ?_
      refine rj_nil ?_
      refine hK25 _ _ _ ?_
      refine cj_condt rfl (fun hc67 => ?_) (fun hc67 => ?_)
      ·try simp only [dT, dF, nT, nF, tF, fT] at hc67
       refine cj_seq (fun K27 hK27 => ?_)
       refine cj_region ?_
       refine rv0 rfl rfl rfl (y_assign rfl) ?_
       refine rv0 rfl rfl rfl (y_assign rfl) ?_
       refine rj_nil ?_
       refine hK27 _ _ _ ?_
       refine cj_env (eL 6 rfl (eL 7 rfl eN)) ?_
       refine cj_ret ?_
       refine hret _ _ _ ?_
       apply ej_ret Try.results36 (.cons (rv_tmp rfl) (.cons (rv_tmp rfl) .nil)) _ [] (by (first | exact Hp.le_refl _ | assumption | exact Hp.le_trans ‹_› ‹_›)) rfl
       case hp => refine ⟨?_, rfl⟩; rw [hst]; clear hst hme hwf hx hcall hk; first | (unfold kstep; simp only; rw [if_neg (by simp), if_pos h73]; simp_all [tupOf]; done) | (unfold kstep; simp only; rw [if_neg (by simp), if_neg (by omega), if_pos h85]; rcases hkk _ (by simp : k0 ∈ _) with (rfl|rfl|rfl) <;> rcases hkk _ (by simp : k1 ∈ _) with (rfl|rfl|rfl) <;> simp_all [tupOf] <;> done) | (simp_all [kstep, fam, tupOf]; done) | (rw [kstep]; simp [fam, tupOf, *]; done) | (rcases hop with (rfl|rfl) <;> simp_all [kstep, fam, tupOf] <;> rfl) | (simp_all [kstep, fam, tupOf]; rw [if_neg (by omega)]; exact ⟨rfl, rfl⟩) | (rcases hkk _ (by simp : k0 ∈ _) with (rfl|rfl|rfl) <;> rcases hkk _ (by simp : k1 ∈ _) with (rfl|rfl|rfl) <;> simp_all [kstep, fam, tupOf] <;> done)
       case hS => (repeat (first|exact zR _|(apply zP;focus (repeat (first|exact zH _|apply zT)))|apply zD|exact zA _ _))
      ·try simp only [dT, dF, nT, nF, tF, fT] at hc67
       refine cj_skip ?_
       refine hK24 _ _ _ ?_
       refine cj_seq (fun K28 hK28 => ?_)
       refine cj_region ?_
       obtain ⟨x31, hx31, hd31, _⟩ := placeC_at (cols := cols) (name := name) (by (try simp at hc67); omega)
       have hp31 : 0 ≤ placeC cols name := by (try simp at hc67); omega
       obtain ⟨bk, ok, ck, cs0, rfl, rfl, hcl0, hcell0⟩ := hcols3.at hx31
       have hl31 := (List.getElem?_eq_some_iff.1 hx31).1
       refine rv0 rfl rfl rfl (y_move rfl) ?_
       refine rv0 rfl rfl rfl (y_move rfl) ?_
       first | refine rv0 rfl rfl rfl (y_indexAddr Try.underlying35 Try.sizeOf66 rfl rfl (by (first | omega | (dsimp only; omega) | (simp; done) | (simp; omega)))) ?_ | refine rv0 rfl rfl rfl (y_index_slc Try.underlying35 Try.sizeOf66 rfl rfl (by (repeat (first|exact zH _|apply zT));done) (by (first | omega | (dsimp only; omega) | (simp; done) | (simp; omega)))) ?_
       refine rv0 rfl rfl rfl (y_fieldAddr (k := 1) Try.underlying66 rfl (n := 1) (by decide) Try.sizeOf3 rfl) ?_
       refine rv0 rfl rfl rfl ((y_load_ro ⟨Try.isAgg3, Try.sizeOf3⟩ rfl (hcell0 1 (.int .i64 x31.kind) rfl))) ?_
       refine rv0 rfl rfl rfl (y_assign rfl) ?_
       refine rv0 rfl rfl rfl (y_assign rfl) ?_
       refine rj_nil ?_
       refine hK28 _ _ _ ?_
       refine cj_env (eL 6 rfl (eL 7 rfl eN)) ?_
       refine cj_ret ?_
       refine hret _ _ _ ?_
       apply ej_ret Try.results36 (.cons (rv_tmp rfl) (.cons (rv_tmp rfl) .nil)) _ [] (by (first | exact Hp.le_refl _ | assumption | exact Hp.le_trans ‹_› ‹_›)) rfl
       case hp => refine ⟨?_, rfl⟩; rw [hst]; clear hst hme hwf hx hcall hk; first | (unfold kstep; simp only; rw [if_neg (by simp), if_pos h73]; simp_all [tupOf]; done) | (unfold kstep; simp only; rw [if_neg (by simp), if_neg (by omega), if_pos h85]; rcases hkk _ (by simp : k0 ∈ _) with (rfl|rfl|rfl) <;> rcases hkk _ (by simp : k1 ∈ _) with (rfl|rfl|rfl) <;> simp_all [tupOf] <;> done) | (simp_all [kstep, fam, tupOf]; done) | (rw [kstep]; simp [fam, tupOf, *]; done) | (rcases hop with (rfl|rfl) <;> simp_all [kstep, fam, tupOf] <;> rfl) | (simp_all [kstep, fam, tupOf]; rw [if_neg (by omega)]; exact ⟨rfl, rfl⟩) | (rcases hkk _ (by simp : k0 ∈ _) with (rfl|rfl|rfl) <;> rcases hkk _ (by simp : k1 ∈ _) with (rfl|rfl|rfl) <;> simp_all [kstep, fam, tupOf] <;> done)
       case hS => (repeat (first|exact zR _|(apply zP;focus (repeat (first|exact zH _|apply zT)))|apply zD|exact zA _ _))
     ·try simp only [dT, dF, nT, nF, tF, fT] at hc60
      refine cj_seq (fun K29 hK29 => ?_)
      have hJ29 : ∀ (x : Bool), (x = true → fam op = 1 ∨ fam op = 3) ∧ (x = false → ¬ (fam op = 1 ∨ fam op = 3)) → EJ ⟨Try.prog, 134, σ⟩ K29 [(2, .bool may), (8, vl), (54, .string (str op.str)), (73, .bool x)] R2 (F) := by
       rintro x73 ⟨h73t, h73f⟩
       try dsimp only
       refine hK29 _ _ _ ?_
       refine cj_condt rfl (fun hc73 => ?_) (fun hc73 => ?_)
       ·first | (have h73 : fam op = 1 ∨ fam op = 3 := by rw [Op.is hc73 rfl]; decide) | have h73 := h73t hc73
        refine cj_seq (fun K31 hK31 => ?_)
        refine cj_seq (fun K32 hK32 => ?_)
        refine cj_region ?_
        refine rv0 rfl rfl rfl (y_move rfl) ?_
        refine rv0 rfl rfl rfl (y_call Try.call55 rfl (has_q ks vl hfr _) (by (repeat (first|exact zN _|(apply zS;focus (repeat (first|exact zH _|apply zT))))))) ?_
        refine rj_nil ?_
        refine hK32 _ _ _ ?_
        refine cj_env (eL 84 rfl eN) ?_
        refine cj_condt rfl (fun hc84 => ?_) (fun hc84 => ?_)
        ·try simp only [dT, dF, nT, nF, tF, fT] at hc84
         refine cj_seq (fun K34 hK34 => ?_)
         refine cj_region ?_
         refine rv0 rfl rfl rfl (y_assign rfl) ?_
         refine rv0 rfl rfl rfl (y_assign rfl) ?_
         refine rj_nil ?_
         refine hK34 _ _ _ ?_
         refine cj_ret ?_
         refine hret _ _ _ ?_
         apply ej_ret Try.results36 (.cons (rv_tmp rfl) (.cons (rv_tmp rfl) .nil)) _ [] (by (first | exact Hp.le_refl _ | assumption | exact Hp.le_trans ‹_› ‹_›)) rfl
         case hp => refine ⟨?_, rfl⟩; rw [hst]; clear hst hme hwf hx hcall hk; first | (unfold kstep; simp only; rw [if_neg (by simp), if_pos h73]; simp_all [tupOf]; done) | (unfold kstep; simp only; rw [if_neg (by simp), if_neg (by omega), if_pos h85]; rcases hkk _ (by simp : k0 ∈ _) with (rfl|rfl|rfl) <;> rcases hkk _ (by simp : k1 ∈ _) with (rfl|rfl|rfl) <;> simp_all [tupOf] <;> done) | (simp_all [kstep, fam, tupOf]; done) | (rw [kstep]; simp [fam, tupOf, *]; done) | (rcases hop with (rfl|rfl) <;> simp_all [kstep, fam, tupOf] <;> rfl) | (simp_all [kstep, fam, tupOf]; rw [if_neg (by omega)]; exact ⟨rfl, rfl⟩) | (rcases hkk _ (by simp : k0 ∈ _) with (rfl|rfl|rfl) <;> rcases hkk _ (by simp : k1 ∈ _) with (rfl|rfl|rfl) <;> simp_all [kstep, fam, tupOf] <;> done)
         case hS => (repeat (first|exact zR _|(apply zP;focus (repeat (first|exact zH _|apply zT)))|apply zD|exact zA _ _))
        ·try simp only [dT, dF, nT, nF, tF, fT] at hc84
         refine cj_skip ?_
         refine hK31 _ _ _ ?_
         refine cj_seq (fun K35 hK35 => ?_)
         refine cj_region ?_
         refine rv0 rfl rfl rfl (y_assign rfl) ?_
         refine rv0 rfl rfl rfl (y_assign rfl) ?_
         refine rj_nil ?_
         refine hK35 _ _ _ ?_
         refine cj_ret ?_
         refine hret _ _ _ ?_
         apply ej_ret Try.results36 (.cons (rv_tmp rfl) (.cons (rv_tmp rfl) .nil)) _ [] (by (first | exact Hp.le_refl _ | assumption | exact Hp.le_trans ‹_› ‹_›)) rfl
         case hp => refine ⟨?_, rfl⟩; rw [hst]; clear hst hme hwf hx hcall hk; first | (unfold kstep; simp only; rw [if_neg (by simp), if_pos h73]; simp_all [tupOf]; done) | (unfold kstep; simp only; rw [if_neg (by simp), if_neg (by omega), if_pos h85]; rcases hkk _ (by simp : k0 ∈ _) with (rfl|rfl|rfl) <;> rcases hkk _ (by simp : k1 ∈ _) with (rfl|rfl|rfl) <;> simp_all [tupOf] <;> done) | (simp_all [kstep, fam, tupOf]; done) | (rw [kstep]; simp [fam, tupOf, *]; done) | (rcases hop with (rfl|rfl) <;> simp_all [kstep, fam, tupOf] <;> rfl) | (simp_all [kstep, fam, tupOf]; rw [if_neg (by omega)]; exact ⟨rfl, rfl⟩) | (rcases hkk _ (by simp : k0 ∈ _) with (rfl|rfl|rfl) <;> rcases hkk _ (by simp : k1 ∈ _) with (rfl|rfl|rfl) <;> simp_all [kstep, fam, tupOf] <;> done)
         case hS => (repeat (first|exact zR _|(apply zP;focus (repeat (first|exact zH _|apply zT)))|apply zD|exact zA _ _))
       ·try simp only [dT, dF, nT, nF, tF, fT] at hc73
        refine cj_seq (fun K36 hK36 => ?_)
        have hJ38 : ∀ (x : Bool), (x = true → fam op = 2) ∧ (x = false → ¬ fam op = 2) → EJ ⟨Try.prog, 134, σ⟩ K36 [(2, .bool may), (8, vl), (54, .string (str op.str)), (85, .bool x)] R2 (F) := by
         rintro x85 ⟨h85t, h85f⟩
         try dsimp only
         refine hK36 _ _ _ ?_
         refine cj_condt rfl (fun hc85 => ?_) (fun hc85 => ?_)
         ·first | (have h85 : fam op = 2 := by rw [Op.is hc85 rfl]; decide) | have h85 := h85t hc85
          refine cj_seq (fun K38 hK38 => ?_)
          refine cj_seq (fun K39 hK39 => ?_)
          refine cj_draw (by kernel_rfl) (by kernel_rfl) ?_
          have har2 : arity op = 2 := by cases op <;> first | rfl | cases h85
          obtain ⟨k0, k1, rfl⟩ := len2 (hkl.trans (har.trans har2))
          obtain ⟨bk, ok, ck, cs0, rfl, rfl, hcl0, hcell0⟩ := hfr.at (i := 0) (x := k0) rfl
          obtain ⟨bk2, ok2, ck2, cs2, he2, rfl, hcl2, hcell2⟩ := hfr.at (i := 1) (x := k1) rfl
          obtain ⟨rfl, rfl⟩ : bk = bk2 ∧ ok = ok2 := by cases he2; exact ⟨rfl, rfl⟩
          refine qj_val (wn0 rfl) rfl rfl (y_move rfl) ?_
          first | refine qj_val (wn0 rfl) rfl rfl (y_indexAddr Try.underlying88 Try.sizeOf3 rfl rfl (by (first | omega | (dsimp only; omega) | (simp; done) | (simp; omega)))) ?_ | refine qj_val (wn0 rfl) rfl rfl (y_index_slc Try.underlying88 Try.sizeOf3 rfl rfl (by (repeat (first|exact zH _|apply zT));done) (by (first | omega | (dsimp only; omega) | (simp; done) | (simp; omega)))) ?_
          refine qj_val (wn0 rfl) rfl rfl ((y_load_ro ⟨Try.isAgg3, Try.sizeOf3⟩ rfl (hcell0 0 (.int .i64 k0) rfl))) ?_
          refine qj_val (wn0 rfl) rfl rfl (y_move rfl) ?_
          first | refine qj_val (wn0 rfl) rfl rfl (y_indexAddr Try.underlying88 Try.sizeOf3 rfl rfl (by (first | omega | (dsimp only; omega) | (simp; done) | (simp; omega)))) ?_ | refine qj_val (wn0 rfl) rfl rfl (y_index_slc Try.underlying88 Try.sizeOf3 rfl rfl (by (repeat (first|exact zH _|apply zT));done) (by (first | omega | (dsimp only; omega) | (simp; done) | (simp; omega)))) ?_
          refine qj_val (wn0 rfl) rfl rfl ((y_load_ro ⟨Try.isAgg3, Try.sizeOf3⟩ rfl (hcell2 0 (.int .i64 k1) rfl))) ?_
          refine qj_val (wn0 rfl) rfl rfl (y_neq rfl rfl) ?_
          refine qj_val (wn0 rfl) rfl rfl (y_move rfl) ?_
          refine qj_part 99 rfl (fun hg99 => ?_) (fun hg99 => ?_)
          ·try simp only [dT, dF, nT, nF, tF, fT] at hg99
           refine qj_val (wn1 rfl rfl rfl rfl) rfl rfl (y_move rfl) ?_
           first | refine qj_val (wn1 rfl rfl rfl rfl) rfl rfl (y_indexAddr Try.underlying88 Try.sizeOf3 rfl rfl (by (first | omega | (dsimp only; omega) | (simp; done) | (simp; omega)))) ?_ | refine qj_val (wn1 rfl rfl rfl rfl) rfl rfl (y_index_slc Try.underlying88 Try.sizeOf3 rfl rfl (by (repeat (first|exact zH _|apply zT));done) (by (first | omega | (dsimp only; omega) | (simp; done) | (simp; omega)))) ?_
           refine qj_val (wn1 rfl rfl rfl rfl) rfl rfl ((y_load_ro ⟨Try.isAgg3, Try.sizeOf3⟩ rfl (hcell0 0 (.int .i64 k0) rfl))) ?_
           refine qj_val (wn1 rfl rfl rfl rfl) rfl rfl (y_neq rfl rfl) ?_
           refine qj_val (wn0 rfl) rfl rfl (y_pick_t rfl rfl) ?_
           refine qj_val (wn0 rfl) rfl rfl (y_move rfl) ?_
           refine qj_part 105 rfl (fun hg105 => ?_) (fun hg105 => ?_)
           ·try simp only [dT, dF, nT, nF, tF, fT] at hg105
            refine qj_val (wn1 rfl rfl rfl rfl) rfl rfl (y_move rfl) ?_
            first | refine qj_val (wn1 rfl rfl rfl rfl) rfl rfl (y_indexAddr Try.underlying88 Try.sizeOf3 rfl rfl (by (first | omega | (dsimp only; omega) | (simp; done) | (simp; omega)))) ?_ | refine qj_val (wn1 rfl rfl rfl rfl) rfl rfl (y_index_slc Try.underlying88 Try.sizeOf3 rfl rfl (by (repeat (first|exact zH _|apply zT));done) (by (first | omega | (dsimp only; omega) | (simp; done) | (simp; omega)))) ?_
            refine qj_val (wn1 rfl rfl rfl rfl) rfl rfl ((y_load_ro ⟨Try.isAgg3, Try.sizeOf3⟩ rfl (hcell2 0 (.int .i64 k1) rfl))) ?_
            refine qj_val (wn1 rfl rfl rfl rfl) rfl rfl (y_neq rfl rfl) ?_
            refine qj_val (wn0 rfl) rfl rfl (y_pick_t rfl rfl) ?_
            refine qj_nil ?_
            refine hK39 _ _ _ ?_
            refine cj_env (eL 110 rfl eN) ?_
            refine cj_condt rfl (fun hc110 => ?_) (fun hc110 => ?_)
            ·try simp only [dT, dF, nT, nF, tF, fT] at hc110
             refine cj_seq (fun K41 hK41 => ?_)
             refine cj_region ?_
             refine rv0 rfl rfl rfl (y_assign rfl) ?_
             refine rv0 rfl rfl rfl (y_assign rfl) ?_
             refine rj_nil ?_
             refine hK41 _ _ _ ?_
             refine cj_ret ?_
             refine hret _ _ _ ?_
             apply ej_ret Try.results36 (.cons (rv_tmp rfl) (.cons (rv_tmp rfl) .nil)) _ [] (by (first | exact Hp.le_refl _ | assumption | exact Hp.le_trans ‹_› ‹_›)) rfl
             case hp => refine ⟨?_, rfl⟩; rw [hst]; clear hst hme hwf hx hcall hk; first | (unfold kstep; simp only; rw [if_neg (by simp), if_pos h73]; simp_all [tupOf]; done) | (unfold kstep; simp only; rw [if_neg (by simp), if_neg (by omega), if_pos h85]; rcases hkk _ (by simp : k0 ∈ _) with (rfl|rfl|rfl) <;> rcases hkk _ (by simp : k1 ∈ _) with (rfl|rfl|rfl) <;> simp_all [tupOf] <;> done) | (simp_all [kstep, fam, tupOf]; done) | (rw [kstep]; simp [fam, tupOf, *]; done) | (rcases hop with (rfl|rfl) <;> simp_all [kstep, fam, tupOf] <;> rfl) | (simp_all [kstep, fam, tupOf]; rw [if_neg (by omega)]; exact ⟨rfl, rfl⟩) | (rcases hkk _ (by simp : k0 ∈ _) with (rfl|rfl|rfl) <;> rcases hkk _ (by simp : k1 ∈ _) with (rfl|rfl|rfl) <;> simp_all [kstep, fam, tupOf] <;> done)
             case hS => (repeat (first|exact zR _|(apply zP;focus (repeat (first|exact zH _|apply zT)))|apply zD|exact zA _ _))
            ·try simp only [dT, dF, nT, nF, tF, fT] at hc110
             refine cj_skip ?_
             refine hK38 _ _ _ ?_
             refine cj_seq (fun K42 hK42 => ?_)
             refine cj_region ?_
             refine rv0 rfl rfl rfl (y_assign rfl) ?_
             refine rv0 rfl rfl rfl (y_assign rfl) ?_
             refine rj_nil ?_
             refine hK42 _ _ _ ?_
             refine cj_ret ?_
             refine hret _ _ _ ?_
             apply ej_ret Try.results36 (.cons (rv_tmp rfl) (.cons (rv_tmp rfl) .nil)) _ [] (by (first | exact Hp.le_refl _ | assumption | exact Hp.le_trans ‹_› ‹_›)) rfl
             case hp => refine ⟨?_, rfl⟩; rw [hst]; clear hst hme hwf hx hcall hk; first | (unfold kstep; simp only; rw [if_neg (by simp), if_pos h73]; simp_all [tupOf]; done) | (unfold kstep; simp only; rw [if_neg (by simp), if_neg (by omega), if_pos h85]; rcases hkk _ (by simp : k0 ∈ _) with (rfl|rfl|rfl) <;> rcases hkk _ (by simp : k1 ∈ _) with (rfl|rfl|rfl) <;> simp_all [tupOf] <;> done) | (simp_all [kstep, fam, tupOf]; done) | (rw [kstep]; simp [fam, tupOf, *]; done) | (rcases hop with (rfl|rfl) <;> simp_all [kstep, fam, tupOf] <;> rfl) | (simp_all [kstep, fam, tupOf]; rw [if_neg (by omega)]; exact ⟨rfl, rfl⟩) | (rcases hkk _ (by simp : k0 ∈ _) with (rfl|rfl|rfl) <;> rcases hkk _ (by simp : k1 ∈ _) with (rfl|rfl|rfl) <;> simp_all [kstep, fam, tupOf] <;> done)
             case hS => (repeat (first|exact zR _|(apply zP;focus (repeat (first|exact zH _|apply zT)))|apply zD|exact zA _ _))
           ·try simp only [dT, dF, nT, nF, tF, fT] at hg105
            refine qj_skip (wn2 rfl rfl rfl rfl rfl) rfl rfl ?_
            refine qj_skip (wn2 rfl rfl rfl rfl rfl) rfl rfl ?_
            refine qj_skip (wn2 rfl rfl rfl rfl rfl) rfl rfl ?_
            refine qj_skip (wn2 rfl rfl rfl rfl rfl) rfl rfl ?_
            refine qj_val (wn0 rfl) rfl rfl (y_pick_f rfl rfl) ?_
            refine qj_nil ?_
            refine hK39 _ _ _ ?_
            refine cj_env (eL 110 rfl eN) ?_
            refine cj_cond_f rfl ?_
            refine cj_skip ?_
            refine hK38 _ _ _ ?_
            refine cj_seq (fun K43 hK43 => ?_)
            refine cj_region ?_
            refine rv0 rfl rfl rfl (y_assign rfl) ?_
            refine rv0 rfl rfl rfl (y_assign rfl) ?_
            refine rj_nil ?_
            refine hK43 _ _ _ ?_
            refine cj_ret ?_
            refine hret _ _ _ ?_
            apply ej_ret Try.results36 (.cons (rv_tmp rfl) (.cons (rv_tmp rfl) .nil)) _ [] (by (first | exact Hp.le_refl _ | assumption | exact Hp.le_trans ‹_› ‹_›)) rfl
            case hp => refine ⟨?_, rfl⟩; rw [hst]; clear hst hme hwf hx hcall hk; first | (unfold kstep; simp only; rw [if_neg (by simp), if_pos h73]; simp_all [tupOf]; done) | (unfold kstep; simp only; rw [if_neg (by simp), if_neg (by omega), if_pos h85]; rcases hkk _ (by simp : k0 ∈ _) with (rfl|rfl|rfl) <;> rcases hkk _ (by simp : k1 ∈ _) with (rfl|rfl|rfl) <;> simp_all [tupOf] <;> done) | (simp_all [kstep, fam, tupOf]; done) | (rw [kstep]; simp [fam, tupOf, *]; done) | (rcases hop with (rfl|rfl) <;> simp_all [kstep, fam, tupOf] <;> rfl) | (simp_all [kstep, fam, tupOf]; rw [if_neg (by omega)]; exact ⟨rfl, rfl⟩) | (rcases hkk _ (by simp : k0 ∈ _) with (rfl|rfl|rfl) <;> rcases hkk _ (by simp : k1 ∈ _) with (rfl|rfl|rfl) <;> simp_all [kstep, fam, tupOf] <;> done)
            case hS => (repeat (first|exact zR _|(apply zP;focus (repeat (first|exact zH _|apply zT)))|apply zD|exact zA _ _))
          ·try simp only [dT, dF, nT, nF, tF, fT] at hg99
           refine qj_skip (wn2 rfl rfl rfl rfl rfl) rfl rfl ?_
           refine qj_skip (wn2 rfl rfl rfl rfl rfl) rfl rfl ?_
           refine qj_skip (wn2 rfl rfl rfl rfl rfl) rfl rfl ?_
           refine qj_skip (wn2 rfl rfl rfl rfl rfl) rfl rfl ?_
           refine qj_val (wn0 rfl) rfl rfl (y_pick_f rfl rfl) ?_
           refine qj_val (wn0 rfl) rfl rfl (y_move rfl) ?_
           refine qj_skip (wn2 rfl rfl rfl rfl rfl) rfl rfl ?_
           refine qj_skip (wn2 rfl rfl rfl rfl rfl) rfl rfl ?_
           refine qj_skip (wn2 rfl rfl rfl rfl rfl) rfl rfl ?_
           refine qj_skip (wn2 rfl rfl rfl rfl rfl) rfl rfl ?_
           refine qj_val (wn0 rfl) rfl rfl (y_pick_f rfl rfl) ?_
           refine qj_nil ?_
           refine hK39 _ _ _ ?_
           refine cj_env (eL 110 rfl eN) ?_
           refine cj_cond_f rfl ?_
           refine cj_skip ?_
           refine hK38 _ _ _ ?_
           refine cj_seq (fun K44 hK44 => ?_)
           refine cj_region ?_
           refine rv0 rfl rfl rfl (y_assign rfl) ?_
           refine rv0 rfl rfl rfl (y_assign rfl) ?_
           refine rj_nil ?_
           refine hK44 _ _ _ ?_
           refine cj_ret ?_
           refine hret _ _ _ ?_
           apply ej_ret Try.results36 (.cons (rv_tmp rfl) (.cons (rv_tmp rfl) .nil)) _ [] (by (first | exact Hp.le_refl _ | assumption | exact Hp.le_trans ‹_› ‹_›)) rfl
           case hp => refine ⟨?_, rfl⟩; rw [hst]; clear hst hme hwf hx hcall hk; first | (unfold kstep; simp only; rw [if_neg (by simp), if_pos h73]; simp_all [tupOf]; done) | (unfold kstep; simp only; rw [if_neg (by simp), if_neg (by omega), if_pos h85]; rcases hkk _ (by simp : k0 ∈ _) with (rfl|rfl|rfl) <;> rcases hkk _ (by simp : k1 ∈ _) with (rfl|rfl|rfl) <;> simp_all [tupOf] <;> done) | (simp_all [kstep, fam, tupOf]; done) | (rw [kstep]; simp [fam, tupOf, *]; done) | (rcases hop with (rfl|rfl) <;> simp_all [kstep, fam, tupOf] <;> rfl) | (simp_all [kstep, fam, tupOf]; rw [if_neg (by omega)]; exact ⟨rfl, rfl⟩) | (rcases hkk _ (by simp : k0 ∈ _) with (rfl|rfl|rfl) <;> rcases hkk _ (by simp : k1 ∈ _) with (rfl|rfl|rfl) <;> simp_all [kstep, fam, tupOf] <;> done)
           case hS => (repeat (first|exact zR _|(apply zP;focus (repeat (first|exact zH _|apply zT)))|apply zD|exact zA _ _))
         ·try simp only [dT, dF, nT, nF, tF, fT] at hc85
          refine cj_seq (fun K45 hK45 => ?_)
          refine cj_region ?_
          have h85n := h85f hc85
          refine rv0 rfl rfl rfl (y_seql rfl rfl) ?_
          refine rv0 rfl rfl rfl (y_assign rfl) ?_
          refine rj_nil ?_
          refine hK45 _ _ _ ?_
          refine cj_condt rfl (fun hc111 => ?_) (fun hc111 => ?_)
          ·obtain rfl := Op.is hc111 rfl
           refine cj_seq (fun K47 hK47 => ?_)
           refine cj_region ?_
           refine rv0 rfl rfl rfl (y_assign rfl) ?_
           refine rv0 rfl rfl rfl (y_assign rfl) ?_
           refine rj_nil ?_
           refine hK47 _ _ _ ?_
           refine cj_env (eL 6 rfl (eL 7 rfl eN)) ?_
           refine cj_ret ?_
           refine hret _ _ _ ?_
           apply ej_ret Try.results36 (.cons (rv_tmp rfl) (.cons (rv_tmp rfl) .nil)) _ [] (by (first | exact Hp.le_refl _ | assumption | exact Hp.le_trans ‹_› ‹_›)) rfl
           case hp => refine ⟨?_, rfl⟩; rw [hst]; clear hst hme hwf hx hcall hk; first | (unfold kstep; simp only; rw [if_neg (by simp), if_pos h73]; simp_all [tupOf]; done) | (unfold kstep; simp only; rw [if_neg (by simp), if_neg (by omega), if_pos h85]; rcases hkk _ (by simp : k0 ∈ _) with (rfl|rfl|rfl) <;> rcases hkk _ (by simp : k1 ∈ _) with (rfl|rfl|rfl) <;> simp_all [tupOf] <;> done) | (simp_all [kstep, fam, tupOf]; done) | (rw [kstep]; simp [fam, tupOf, *]; done) | (rcases hop with (rfl|rfl) <;> simp_all [kstep, fam, tupOf] <;> rfl) | (simp_all [kstep, fam, tupOf]; rw [if_neg (by omega)]; exact ⟨rfl, rfl⟩) | (rcases hkk _ (by simp : k0 ∈ _) with (rfl|rfl|rfl) <;> rcases hkk _ (by simp : k1 ∈ _) with (rfl|rfl|rfl) <;> simp_all [kstep, fam, tupOf] <;> done)
           case hS => (repeat (first|exact zR _|(apply zP;focus (repeat (first|exact zH _|apply zT)))|apply zD|exact zA _ _))
          ·try simp only [dT, dF, nT, nF, tF, fT] at hc111
           refine cj_seq (fun K48 hK48 => ?_)
           refine cj_region ?_
           refine rv0 rfl rfl rfl (y_seql rfl rfl) ?_
           refine rv0 rfl rfl rfl (y_assign rfl) ?_
           refine rj_nil ?_
           refine hK48 _ _ _ ?_
           refine cj_env (eL 2 rfl (eL 8 rfl (eL 54 rfl (eL 113 rfl eN)))) ?_
           refine cj_condt rfl (fun hc113 => ?_) (fun hc113 => ?_)
           ·obtain rfl := Op.is hc113 rfl
            refine cj_seq (fun K50 hK50 => ?_)
            refine cj_seq (fun K51 hK51 => ?_)
            refine cj_region ?_
            refine rv0 rfl rfl rfl (y_move rfl) ?_
            refine rv0 rfl rfl rfl (y_call Try.call55 rfl (has_q ks vl hfr _) (by (repeat (first|exact zN _|(apply zS;focus (repeat (first|exact zH _|apply zT))))))) ?_
            refine rj_nil ?_
            refine hK51 _ _ _ ?_
            refine cj_env (eL 116 rfl eN) ?_
            refine cj_condt rfl (fun hc116 => ?_) (fun hc116 => ?_)
            ·try simp only [dT, dF, nT, nF, tF, fT] at hc116
             refine cj_seq (fun K53 hK53 => ?_)
             refine cj_region ?_
             refine rv0 rfl rfl rfl (y_assign rfl) ?_
             refine rv0 rfl rfl rfl (y_assign rfl) ?_
             refine rj_nil ?_
             refine hK53 _ _ _ ?_
             refine cj_ret ?_
             refine hret _ _ _ ?_
             apply ej_ret Try.results36 (.cons (rv_tmp rfl) (.cons (rv_tmp rfl) .nil)) _ [] (by (first | exact Hp.le_refl _ | assumption | exact Hp.le_trans ‹_› ‹_›)) rfl
             case hp => refine ⟨?_, rfl⟩; rw [hst]; clear hst hme hwf hx hcall hk; first | (unfold kstep; simp only; rw [if_neg (by simp), if_pos h73]; simp_all [tupOf]; done) | (unfold kstep; simp only; rw [if_neg (by simp), if_neg (by omega), if_pos h85]; rcases hkk _ (by simp : k0 ∈ _) with (rfl|rfl|rfl) <;> rcases hkk _ (by simp : k1 ∈ _) with (rfl|rfl|rfl) <;> simp_all [tupOf] <;> done) | (simp_all [kstep, fam, tupOf]; done) | (rw [kstep]; simp [fam, tupOf, *]; done) | (rcases hop with (rfl|rfl) <;> simp_all [kstep, fam, tupOf] <;> rfl) | (simp_all [kstep, fam, tupOf]; rw [if_neg (by omega)]; exact ⟨rfl, rfl⟩) | (rcases hkk _ (by simp : k0 ∈ _) with (rfl|rfl|rfl) <;> rcases hkk _ (by simp : k1 ∈ _) with (rfl|rfl|rfl) <;> simp_all [kstep, fam, tupOf] <;> done)
             case hS => (repeat (first|exact zR _|(apply zP;focus (repeat (first|exact zH _|apply zT)))|apply zD|exact zA _ _))
            ·try simp only [dT, dF, nT, nF, tF, fT] at hc116
             refine cj_skip ?_
             refine hK50 _ _ _ ?_
             refine cj_seq (fun K54 hK54 => ?_)
             refine cj_region ?_
             refine rv0 rfl rfl rfl (y_assign rfl) ?_
             refine rv0 rfl rfl rfl (y_assign rfl) ?_
             refine rj_nil ?_
             refine hK54 _ _ _ ?_
             refine cj_ret ?_
             refine hret _ _ _ ?_
             apply ej_ret Try.results36 (.cons (rv_tmp rfl) (.cons (rv_tmp rfl) .nil)) _ [] (by (first | exact Hp.le_refl _ | assumption | exact Hp.le_trans ‹_› ‹_›)) rfl
             case hp => refine ⟨?_, rfl⟩; rw [hst]; clear hst hme hwf hx hcall hk; first | (unfold kstep; simp only; rw [if_neg (by simp), if_pos h73]; simp_all [tupOf]; done) | (unfold kstep; simp only; rw [if_neg (by simp), if_neg (by omega), if_pos h85]; rcases hkk _ (by simp : k0 ∈ _) with (rfl|rfl|rfl) <;> rcases hkk _ (by simp : k1 ∈ _) with (rfl|rfl|rfl) <;> simp_all [tupOf] <;> done) | (simp_all [kstep, fam, tupOf]; done) | (rw [kstep]; simp [fam, tupOf, *]; done) | (rcases hop with (rfl|rfl) <;> simp_all [kstep, fam, tupOf] <;> rfl) | (simp_all [kstep, fam, tupOf]; rw [if_neg (by omega)]; exact ⟨rfl, rfl⟩) | (rcases hkk _ (by simp : k0 ∈ _) with (rfl|rfl|rfl) <;> rcases hkk _ (by simp : k1 ∈ _) with (rfl|rfl|rfl) <;> simp_all [kstep, fam, tupOf] <;> done)
             case hS => (repeat (first|exact zR _|(apply zP;focus (repeat (first|exact zH _|apply zT)))|apply zD|exact zA _ _))
           ·try simp only [dT, dF, nT, nF, tF, fT] at hc113
            refine cj_seq (fun K55 hK55 => ?_)
            refine cj_region ?_
            refine rv0 rfl rfl rfl (y_seql rfl rfl) ?_
            refine rv0 rfl rfl rfl (y_assign rfl) ?_
            refine rj_nil ?_
            refine hK55 _ _ _ ?_
            refine cj_condt rfl (fun hc117 => ?_) (fun hc117 => ?_)
            ·obtain rfl := Op.is hc117 rfl
             refine cj_seq (fun K57 hK57 => ?_)
             refine cj_seq (fun K58 hK58 => ?_)
             refine cj_region ?_
             refine rv0 rfl rfl rfl (y_move rfl) ?_
             refine rv0 rfl rfl rfl (y_not rfl) ?_
             refine rj_nil ?_
             refine hK58 _ _ _ ?_
             refine cj_env (eL 120 rfl eN) ?_
             refine cj_condt rfl (fun hc120 => ?_) (fun hc120 => ?_)
             ·try simp only [dT, dF, nT, nF, tF, fT] at hc120
              refine cj_seq (fun K60 hK60 => ?_)
              refine cj_region ?_
              refine rv0 rfl rfl rfl (y_assign rfl) ?_
              refine rv0 rfl rfl rfl (y_assign rfl) ?_
              refine rj_nil ?_
              refine hK60 _ _ _ ?_
              refine cj_ret ?_
              refine hret _ _ _ ?_
              apply ej_ret Try.results36 (.cons (rv_tmp rfl) (.cons (rv_tmp rfl) .nil)) _ [] (by (first | exact Hp.le_refl _ | assumption | exact Hp.le_trans ‹_› ‹_›)) rfl
              case hp => refine ⟨?_, rfl⟩; rw [hst]; clear hst hme hwf hx hcall hk; first | (unfold kstep; simp only; rw [if_neg (by simp), if_pos h73]; simp_all [tupOf]; done) | (unfold kstep; simp only; rw [if_neg (by simp), if_neg (by omega), if_pos h85]; rcases hkk _ (by simp : k0 ∈ _) with (rfl|rfl|rfl) <;> rcases hkk _ (by simp : k1 ∈ _) with (rfl|rfl|rfl) <;> simp_all [tupOf] <;> done) | (simp_all [kstep, fam, tupOf]; done) | (rw [kstep]; simp [fam, tupOf, *]; done) | (rcases hop with (rfl|rfl) <;> simp_all [kstep, fam, tupOf] <;> rfl) | (simp_all [kstep, fam, tupOf]; rw [if_neg (by omega)]; exact ⟨rfl, rfl⟩) | (rcases hkk _ (by simp : k0 ∈ _) with (rfl|rfl|rfl) <;> rcases hkk _ (by simp : k1 ∈ _) with (rfl|rfl|rfl) <;> simp_all [kstep, fam, tupOf] <;> done)
              case hS => (repeat (first|exact zR _|(apply zP;focus (repeat (first|exact zH _|apply zT)))|apply zD|exact zA _ _))
             ·try simp only [dT, dF, nT, nF, tF, fT] at hc120
              refine cj_skip ?_
              refine hK57 _ _ _ ?_
              refine cj_seq (fun K61 hK61 => ?_)
              refine cj_region ?_
              refine rv0 rfl rfl rfl (y_assign rfl) ?_
              refine rv0 rfl rfl rfl (y_assign rfl) ?_
              refine rj_nil ?_
              refine hK61 _ _ _ ?_
              refine cj_ret ?_
              refine hret _ _ _ ?_
              apply ej_ret Try.results36 (.cons (rv_tmp rfl) (.cons (rv_tmp rfl) .nil)) _ [] (by (first | exact Hp.le_refl _ | assumption | exact Hp.le_trans ‹_› ‹_›)) rfl
              case hp => refine ⟨?_, rfl⟩; rw [hst]; clear hst hme hwf hx hcall hk; first | (unfold kstep; simp only; rw [if_neg (by simp), if_pos h73]; simp_all [tupOf]; done) | (unfold kstep; simp only; rw [if_neg (by simp), if_neg (by omega), if_pos h85]; rcases hkk _ (by simp : k0 ∈ _) with (rfl|rfl|rfl) <;> rcases hkk _ (by simp : k1 ∈ _) with (rfl|rfl|rfl) <;> simp_all [tupOf] <;> done) | (simp_all [kstep, fam, tupOf]; done) | (rw [kstep]; simp [fam, tupOf, *]; done) | (rcases hop with (rfl|rfl) <;> simp_all [kstep, fam, tupOf] <;> rfl) | (simp_all [kstep, fam, tupOf]; rw [if_neg (by omega)]; exact ⟨rfl, rfl⟩) | (rcases hkk _ (by simp : k0 ∈ _) with (rfl|rfl|rfl) <;> rcases hkk _ (by simp : k1 ∈ _) with (rfl|rfl|rfl) <;> simp_all [kstep, fam, tupOf] <;> done)
              case hS => (repeat (first|exact zR _|(apply zP;focus (repeat (first|exact zH _|apply zT)))|apply zD|exact zA _ _))
            ·try simp only [dT, dF, nT, nF, tF, fT] at hc117
             refine cj_seq (fun K62 hK62 => ?_)
             refine cj_region ?_
             refine rv0 rfl rfl rfl (y_seql rfl rfl) ?_
             refine rv0 rfl rfl rfl (y_assign rfl) ?_
             refine rj_nil ?_
             refine hK62 _ _ _ ?_
             refine cj_env (eL 2 rfl (eL 8 rfl (eL 121 rfl eN))) ?_
             refine cj_condt rfl (fun hc121 => ?_) (fun hc121 => ?_)
             ·obtain rfl := Op.is hc121 rfl
              refine cj_seq (fun K64 hK64 => ?_)
              refine cj_seq (fun K65 hK65 => ?_)
              refine cj_region ?_
              refine rv0 rfl rfl rfl (y_move rfl) ?_
              refine rv0 rfl rfl rfl (y_not rfl) ?_
              refine rv0 rfl rfl rfl (y_move rfl) ?_
              refine rj_part 125 rfl (fun hg125 => ?_) (fun hg125 => ?_)
              ·try simp only [dT, dF, nT, nF, tF, fT] at hg125
               refine rj_skip (wn2 rfl rfl rfl rfl rfl) rfl rfl ?_
               refine rj_skip (wn2 rfl rfl rfl rfl rfl) rfl rfl ?_
               refine rv0 rfl rfl rfl (y_pick_t rfl rfl) ?_
               refine rj_nil ?_
               refine hK65 _ _ _ ?_
               refine cj_env (eL 128 rfl eN) ?_
               refine cj_cond_t rfl ?_
               refine cj_seq (fun K66 hK66 => ?_)
               refine cj_region ?_
               refine rv0 rfl rfl rfl (y_assign rfl) ?_
               refine rv0 rfl rfl rfl (y_assign rfl) ?_
               refine rj_nil ?_
               refine hK66 _ _ _ ?_
               refine cj_ret ?_
               refine hret _ _ _ ?_
               apply ej_ret Try.results36 (.cons (rv_tmp rfl) (.cons (rv_tmp rfl) .nil)) _ [] (by (first | exact Hp.le_refl _ | assumption | exact Hp.le_trans ‹_› ‹_›)) rfl
               case hp => refine ⟨?_, rfl⟩; rw [hst]; clear hst hme hwf hx hcall hk; first | (unfold kstep; simp only; rw [if_neg (by simp), if_pos h73]; simp_all [tupOf]; done) | (unfold kstep; simp only; rw [if_neg (by simp), if_neg (by omega), if_pos h85]; rcases hkk _ (by simp : k0 ∈ _) with (rfl|rfl|rfl) <;> rcases hkk _ (by simp : k1 ∈ _) with (rfl|rfl|rfl) <;> simp_all [tupOf] <;> done) | (simp_all [kstep, fam, tupOf]; done) | (rw [kstep]; simp [fam, tupOf, *]; done) | (rcases hop with (rfl|rfl) <;> simp_all [kstep, fam, tupOf] <;> rfl) | (simp_all [kstep, fam, tupOf]; rw [if_neg (by omega)]; exact ⟨rfl, rfl⟩) | (rcases hkk _ (by simp : k0 ∈ _) with (rfl|rfl|rfl) <;> rcases hkk _ (by simp : k1 ∈ _) with (rfl|rfl|rfl) <;> simp_all [kstep, fam, tupOf] <;> done)
               case hS => (repeat (first|exact zR _|(apply zP;focus (repeat (first|exact zH _|apply zT)))|apply zD|exact zA _ _))
              ·try simp only [dT, dF, nT, nF, tF, fT] at hg125
               refine rj_val (wn1 rfl rfl rfl rfl) rfl rfl (y_move rfl) ?_
               refine rj_val (wn1 rfl rfl rfl rfl) rfl rfl (y_call Try.call55 rfl (has_q ks vl hfr _) (by (repeat (first|exact zN _|(apply zS;focus (repeat (first|exact zH _|apply zT))))))) ?_
               refine rv0 rfl rfl rfl (y_pick_f rfl rfl) ?_
               refine rj_nil ?_
               refine hK65 _ _ _ ?_
               refine cj_env (eL 128 rfl eN) ?_
               refine cj_condt rfl (fun hc128 => ?_) (fun hc128 => ?_)
               ·try simp only [dT, dF, nT, nF, tF, fT] at hc128
                refine cj_seq (fun K68 hK68 => ?_)
                refine cj_region ?_
                refine rv0 rfl rfl rfl (y_assign rfl) ?_
                refine rv0 rfl rfl rfl (y_assign rfl) ?_
                refine rj_nil ?_
                refine hK68 _ _ _ ?_
                refine cj_ret ?_
                refine hret _ _ _ ?_
                apply ej_ret Try.results36 (.cons (rv_tmp rfl) (.cons (rv_tmp rfl) .nil)) _ [] (by (first | exact Hp.le_refl _ | assumption | exact Hp.le_trans ‹_› ‹_›)) rfl
                case hp => refine ⟨?_, rfl⟩; rw [hst]; clear hst hme hwf hx hcall hk; first | (unfold kstep; simp only; rw [if_neg (by simp), if_pos h73]; simp_all [tupOf]; done) | (unfold kstep; simp only; rw [if_neg (by simp), if_neg (by omega), if_pos h85]; rcases hkk _ (by simp : k0 ∈ _) with (rfl|rfl|rfl) <;> rcases hkk _ (by simp : k1 ∈ _) with (rfl|rfl|rfl) <;> simp_all [tupOf] <;> done) | (simp_all [kstep, fam, tupOf]; done) | (rw [kstep]; simp [fam, tupOf, *]; done) | (rcases hop with (rfl|rfl) <;> simp_all [kstep, fam, tupOf] <;> rfl) | (simp_all [kstep, fam, tupOf]; rw [if_neg (by omega)]; exact ⟨rfl, rfl⟩) | (rcases hkk _ (by simp : k0 ∈ _) with (rfl|rfl|rfl) <;> rcases hkk _ (by simp : k1 ∈ _) with (rfl|rfl|rfl) <;> simp_all [kstep, fam, tupOf] <;> done)
                case hS => (repeat (first|exact zR _|(apply zP;focus (repeat (first|exact zH _|apply zT)))|apply zD|exact zA _ _))
               ·try simp only [dT, dF, nT, nF, tF, fT] at hc128
                refine cj_skip ?_
                refine hK64 _ _ _ ?_
                refine cj_seq (fun K69 hK69 => ?_)
                refine cj_region ?_
                refine rv0 rfl rfl rfl (y_assign rfl) ?_
                refine rv0 rfl rfl rfl (y_assign rfl) ?_
                refine rj_nil ?_
                refine hK69 _ _ _ ?_
                refine cj_ret ?_
                refine hret _ _ _ ?_
                apply ej_ret Try.results36 (.cons (rv_tmp rfl) (.cons (rv_tmp rfl) .nil)) _ [] (by (first | exact Hp.le_refl _ | assumption | exact Hp.le_trans ‹_› ‹_›)) rfl
                case hp => refine ⟨?_, rfl⟩; rw [hst]; clear hst hme hwf hx hcall hk; first | (unfold kstep; simp only; rw [if_neg (by simp), if_pos h73]; simp_all [tupOf]; done) | (unfold kstep; simp only; rw [if_neg (by simp), if_neg (by omega), if_pos h85]; rcases hkk _ (by simp : k0 ∈ _) with (rfl|rfl|rfl) <;> rcases hkk _ (by simp : k1 ∈ _) with (rfl|rfl|rfl) <;> simp_all [tupOf] <;> done) | (simp_all [kstep, fam, tupOf]; done) | (rw [kstep]; simp [fam, tupOf, *]; done) | (rcases hop with (rfl|rfl) <;> simp_all [kstep, fam, tupOf] <;> rfl) | (simp_all [kstep, fam, tupOf]; rw [if_neg (by omega)]; exact ⟨rfl, rfl⟩) | (rcases hkk _ (by simp : k0 ∈ _) with (rfl|rfl|rfl) <;> rcases hkk _ (by simp : k1 ∈ _) with (rfl|rfl|rfl) <;> simp_all [kstep, fam, tupOf] <;> done)
                case hS => (repeat (first|exact zR _|(apply zP;focus (repeat (first|exact zH _|apply zT)))|apply zD|exact zA _ _))
             ·try simp only [dT, dF, nT, nF, tF, fT] at hc121
              refine cj_skip ?_
              refine hK16 _ _ _ ?_
              refine cj_seq (fun K70 hK70 => ?_)
              refine cj_seq (fun K71 hK71 => ?_)
              refine cj_region ?_
              have hop : op = .min ∨ op = .max := by clear hcall hk hx hwf hst hme hm dsum dmin dmax har; cases op <;> simp_all [Op.str, fam]
              refine rv0 rfl rfl rfl (y_move rfl) ?_
              refine rv0 rfl rfl rfl (y_not rfl) ?_
              refine rj_nil ?_
              refine hK71 _ _ _ ?_
              refine cj_env (eL 8 rfl (eL 130 rfl eN)) ?_
              refine cj_condt rfl (fun hc130 => ?_) (fun hc130 => ?_)
              ·try simp only [dT, dF, nT, nF, tF, fT] at hc130
               refine cj_seq (fun K73 hK73 => ?_)
               refine cj_region ?_
               refine rv0 rfl rfl rfl (y_assign rfl) ?_
               refine rv0 rfl rfl rfl (y_assign rfl) ?_
               refine rj_nil ?_
               refine hK73 _ _ _ ?_
               refine cj_ret ?_
               refine hret _ _ _ ?_
               apply ej_ret Try.results36 (.cons (rv_tmp rfl) (.cons (rv_tmp rfl) .nil)) _ [] (by (first | exact Hp.le_refl _ | assumption | exact Hp.le_trans ‹_› ‹_›)) rfl
               case hp => refine ⟨?_, rfl⟩; rw [hst]; clear hst hme hwf hx hcall hk; first | (unfold kstep; simp only; rw [if_neg (by simp), if_pos h73]; simp_all [tupOf]; done) | (unfold kstep; simp only; rw [if_neg (by simp), if_neg (by omega), if_pos h85]; rcases hkk _ (by simp : k0 ∈ _) with (rfl|rfl|rfl) <;> rcases hkk _ (by simp : k1 ∈ _) with (rfl|rfl|rfl) <;> simp_all [tupOf] <;> done) | (simp_all [kstep, fam, tupOf]; done) | (rw [kstep]; simp [fam, tupOf, *]; done) | (rcases hop with (rfl|rfl) <;> simp_all [kstep, fam, tupOf] <;> rfl) | (simp_all [kstep, fam, tupOf]; rw [if_neg (by omega)]; exact ⟨rfl, rfl⟩) | (rcases hkk _ (by simp : k0 ∈ _) with (rfl|rfl|rfl) <;> rcases hkk _ (by simp : k1 ∈ _) with (rfl|rfl|rfl) <;> simp_all [kstep, fam, tupOf] <;> done)
               case hS => (repeat (first|exact zR _|(apply zP;focus (repeat (first|exact zH _|apply zT)))|apply zD|exact zA _ _))
              ·try simp only [dT, dF, nT, nF, tF, fT] at hc130
               refine cj_skip ?_
               refine hK70 _ _ _ ?_
               refine cj_seq (fun K74 hK74 => ?_)
               refine cj_region ?_
               obtain ⟨k0, rfl⟩ := List.length_eq_one_iff.1 (hkl.trans (har.trans (by rcases hop with rfl | rfl <;> rfl)))
               obtain ⟨bk, ok, ck, cs0, rfl, rfl, hcl0, hcell0⟩ := hfr.at (i := 0) (x := k0) rfl
               refine rv0 rfl rfl rfl (y_move rfl) ?_
               first | refine rv0 rfl rfl rfl (y_indexAddr Try.underlying88 Try.sizeOf3 rfl rfl (by (first | omega | (dsimp only; omega) | (simp; done) | (simp; omega)))) ?_ | refine rv0 rfl rfl rfl (y_index_slc Try.underlying88 Try.sizeOf3 rfl rfl (by (repeat (first|exact zH _|apply zT));done) (by (first | omega | (dsimp only; omega) | (simp; done) | (simp; omega)))) ?_
               refine rv0 rfl rfl rfl ((y_load_ro ⟨Try.isAgg3, Try.sizeOf3⟩ rfl (hcell0 0 (.int .i64 k0) rfl))) ?_
               refine rv0 rfl rfl rfl (y_assign rfl) ?_
               refine rv0 rfl rfl rfl (y_assign rfl) ?_
               refine rj_nil ?_
               refine hK74 _ _ _ ?_
               refine cj_env (eL 6 rfl (eL 7 rfl eN)) ?_
               refine cj_ret ?_
               refine hret _ _ _ ?_
               apply ej_ret Try.results36 (.cons (rv_tmp rfl) (.cons (rv_tmp rfl) .nil)) _ [] (by (first | exact Hp.le_refl _ | assumption | exact Hp.le_trans ‹_› ‹_›)) rfl
               case hp => refine ⟨?_, rfl⟩; rw [hst]; clear hst hme hwf hx hcall hk; first | (unfold kstep; simp only; rw [if_neg (by simp), if_pos h73]; simp_all [tupOf]; done) | (unfold kstep; simp only; rw [if_neg (by simp), if_neg (by omega), if_pos h85]; rcases hkk _ (by simp : k0 ∈ _) with (rfl|rfl|rfl) <;> rcases hkk _ (by simp : k1 ∈ _) with (rfl|rfl|rfl) <;> simp_all [tupOf] <;> done) | (simp_all [kstep, fam, tupOf]; done) | (rw [kstep]; simp [fam, tupOf, *]; done) | (rcases hop with (rfl|rfl) <;> simp_all [kstep, fam, tupOf] <;> rfl) | (simp_all [kstep, fam, tupOf]; rw [if_neg (by omega)]; exact ⟨rfl, rfl⟩) | (rcases hkk _ (by simp : k0 ∈ _) with (rfl|rfl|rfl) <;> rcases hkk _ (by simp : k1 ∈ _) with (rfl|rfl|rfl) <;> simp_all [kstep, fam, tupOf] <;> done)
               case hS => (repeat (first|exact zR _|(apply zP;focus (repeat (first|exact zH _|apply zT)))|apply zD|exact zA _ _))
        refine cj_seq (fun K75 hK75 => ?_)
        refine cj_region ?_
        have h73n := h73f hc73
        refine rv0 rfl rfl rfl (y_seql rfl rfl) ?_
        refine rv0 rfl rfl rfl (y_assign rfl) ?_
        refine rj_nil ?_
        refine hK75 _ _ _ ?_
        refine cj_condt rfl (fun hc85 => ?_) (fun hc85 => ?_)
        ·first | (have h85 : fam op = 2 := by rw [Op.is hc85 rfl]; decide) | have h85 := h85t hc85
         refine cj_skip ?_
         refine ej_join hJ38 (true) (⟨fun _ => h85, fun h => by cases h⟩) (eC rfl (eC rfl (eC rfl (eC rfl eN)))) rfl (by (repeat (first|exact zR _|(apply zP;focus (repeat (first|exact zH _|apply zT)))|apply zD|exact zA _ _)))
        ·try simp only [dT, dF, nT, nF, tF, fT] at hc85
         refine cj_seq (fun K77 hK77 => ?_)
         refine cj_region ?_
         refine rv0 rfl rfl rfl (y_seql rfl rfl) ?_
         refine rv0 rfl rfl rfl (y_assign rfl) ?_
         refine rj_nil ?_
         refine hK77 _ _ _ ?_
         refine cj_env (eL 2 rfl (eL 8 rfl (eL 54 rfl (eL 85 rfl eN)))) ?_
         refine cj_condt rfl (fun hc85 => ?_) (fun hc85 => ?_)
         ·first | (have h85 : fam op = 2 := by rw [Op.is hc85 rfl]; decide) | have h85 := h85t hc85
          refine cj_skip ?_
          refine ej_join hJ38 (true) (⟨fun _ => h85, fun h => by cases h⟩) (eC rfl (eC rfl (eC rfl (eC rfl eN)))) rfl (by (repeat (first|exact zR _|(apply zP;focus (repeat (first|exact zH _|apply zT)))|apply zD|exact zA _ _)))
         ·try simp only [dT, dF, nT, nF, tF, fT] at hc85
          refine cj_seq (fun K79 hK79 => ?_)
          refine cj_region ?_
          refine rv0 rfl rfl rfl (y_seql rfl rfl) ?_
          refine rv0 rfl rfl rfl (y_assign rfl) ?_
          refine rj_nil ?_
          refine hK79 _ _ _ ?_
          refine cj_condt rfl (fun hc85 => ?_) (fun hc85 => ?_)
          ·first | (have h85 : fam op = 2 := by rw [Op.is hc85 rfl]; decide) | have h85 := h85t hc85
           refine cj_skip ?_
           refine ej_join hJ38 (true) (⟨fun _ => h85, fun h => by cases h⟩) (eC rfl (eC rfl (eC rfl (eC rfl eN)))) rfl (by (repeat (first|exact zR _|(apply zP;focus (repeat (first|exact zH _|apply zT)))|apply zD|exact zA _ _)))
          ·try simp only [dT, dF, nT, nF, tF, fT] at hc85
           refine cj_seq (fun K81 hK81 => ?_)
           refine cj_region ?_
           refine rv0 rfl rfl rfl (y_seql rfl rfl) ?_
           refine rv0 rfl rfl rfl (y_assign rfl) ?_
           refine rj_nil ?_
           refine hK81 _ _ _ ?_
           refine cj_condt rfl (fun hc85 => ?_) (fun hc85 => ?_)
           ·first | (have h85 : fam op = 2 := by rw [Op.is hc85 rfl]; decide) | have h85 := h85t hc85
            refine cj_skip ?_
            refine ej_join hJ38 (true) (⟨fun _ => h85, fun h => by cases h⟩) (eC rfl (eC rfl (eC rfl (eC rfl eN)))) rfl (by (repeat (first|exact zR _|(apply zP;focus (repeat (first|exact zH _|apply zT)))|apply zD|exact zA _ _)))
           ·try simp only [dT, dF, nT, nF, tF, fT] at hc85
            refine cj_seq (fun K83 hK83 => ?_)
            refine cj_region ?_
            refine rv0 rfl rfl rfl (y_seql rfl rfl) ?_
            refine rv0 rfl rfl rfl (y_assign rfl) ?_
            refine rj_nil ?_
            refine hK83 _ _ _ ?_
            refine cj_env (eL 2 rfl (eL 8 rfl (eL 54 rfl (eL 85 rfl eN)))) ?_
            refine cj_condt rfl (fun hc85 => ?_) (fun hc85 => ?_)
            ·first | (have h85 : fam op = 2 := by rw [Op.is hc85 rfl]; decide) | have h85 := h85t hc85
             refine cj_skip ?_
             refine ej_join hJ38 (true) (⟨fun _ => h85, fun h => by cases h⟩) (eC rfl (eC rfl (eC rfl (eC rfl eN)))) rfl (by (repeat (first|exact zR _|(apply zP;focus (repeat (first|exact zH _|apply zT)))|apply zD|exact zA _ _)))
            ·try simp only [dT, dF, nT, nF, tF, fT] at hc85
             refine cj_region ?_
             refine rv0 rfl rfl rfl (y_seql rfl rfl) ?_
             refine rv0 rfl rfl rfl (y_assign rfl) ?_
             refine rj_nil ?_
             refine ej_join hJ38 ((decide (op.str = [62, 61]))) (⟨fun h => by rw [Op.is h rfl]; decide, fun h => by clear hcall hk hx hwf hst hme hm dsum dmin dmax har; cases op <;> simp_all [Op.str, fam]⟩) (eC rfl (eC rfl (eC rfl (eC rfl eN)))) rfl (by (repeat (first|exact zR _|(apply zP;focus (repeat (first|exact zH _|apply zT)))|apply zD|exact zA _ _)))
      refine cj_seq (fun K85 hK85 => ?_)
      refine cj_region ?_
      refine rv0 rfl rfl rfl (y_seql rfl rfl) ?_
      refine rv0 rfl rfl rfl (y_assign rfl) ?_
      refine rj_nil ?_
      refine hK85 _ _ _ ?_
      refine cj_env (eL 2 rfl (eL 8 rfl (eL 54 rfl (eL 73 rfl eN)))) ?_
      refine cj_condt rfl (fun hc73 => ?_) (fun hc73 => ?_)
      ·first | (have h73 : fam op = 1 ∨ fam op = 3 := by rw [Op.is hc73 rfl]; decide) | have h73 := h73t hc73
       refine cj_skip ?_
       refine ej_join hJ29 (true) (⟨fun _ => h73, fun h => by cases h⟩) (eC rfl (eC rfl (eC rfl (eC rfl eN)))) rfl (by (repeat (first|exact zR _|(apply zP;focus (repeat (first|exact zH _|apply zT)))|apply zD|exact zA _ _)))
      ·try simp only [dT, dF, nT, nF, tF, fT] at hc73
       refine cj_seq (fun K87 hK87 => ?_)
       refine cj_region ?_
       refine rv0 rfl rfl rfl (y_seql rfl rfl) ?_
       refine rv0 rfl rfl rfl (y_assign rfl) ?_
       refine rj_nil ?_
       refine hK87 _ _ _ ?_
       refine cj_condt rfl (fun hc73 => ?_) (fun hc73 => ?_)
       ·first | (have h73 : fam op = 1 ∨ fam op = 3 := by rw [Op.is hc73 rfl]; decide) | have h73 := h73t hc73
        refine cj_skip ?_
        refine ej_join hJ29 (true) (⟨fun _ => h73, fun h => by cases h⟩) (eC rfl (eC rfl (eC rfl (eC rfl eN)))) rfl (by (repeat (first|exact zR _|(apply zP;focus (repeat (first|exact zH _|apply zT)))|apply zD|exact zA _ _)))
       ·try simp only [dT, dF, nT, nF, tF, fT] at hc73
        refine cj_seq (fun K89 hK89 => ?_)
        refine cj_region ?_
        refine rv0 rfl rfl rfl (y_seql rfl rfl) ?_
        refine rv0 rfl rfl rfl (y_assign rfl) ?_
        refine rj_nil ?_
        refine hK89 _ _ _ ?_
        refine cj_condt rfl (fun hc73 => ?_) (fun hc73 => ?_)
        ·first | (have h73 : fam op = 1 ∨ fam op = 3 := by rw [Op.is hc73 rfl]; decide) | have h73 := h73t hc73
         refine cj_skip ?_
         refine ej_join hJ29 (true) (⟨fun _ => h73, fun h => by cases h⟩) (eC rfl (eC rfl (eC rfl (eC rfl eN)))) rfl (by (repeat (first|exact zR _|(apply zP;focus (repeat (first|exact zH _|apply zT)))|apply zD|exact zA _ _)))
        ·try simp only [dT, dF, nT, nF, tF, fT] at hc73
         refine cj_seq (fun K91 hK91 => ?_)
         refine cj_region ?_
         refine rv0 rfl rfl rfl (y_seql rfl rfl) ?_
         refine rv0 rfl rfl rfl (y_assign rfl) ?_
         refine rj_nil ?_
         refine hK91 _ _ _ ?_
         refine cj_env (eL 2 rfl (eL 8 rfl (eL 54 rfl (eL 73 rfl eN)))) ?_
         refine cj_condt rfl (fun hc73 => ?_) (fun hc73 => ?_)
         ·first | (have h73 : fam op = 1 ∨ fam op = 3 := by rw [Op.is hc73 rfl]; decide) | have h73 := h73t hc73
          refine cj_skip ?_
          refine ej_join hJ29 (true) (⟨fun _ => h73, fun h => by cases h⟩) (eC rfl (eC rfl (eC rfl (eC rfl eN)))) rfl (by (repeat (first|exact zR _|(apply zP;focus (repeat (first|exact zH _|apply zT)))|apply zD|exact zA _ _)))
         ·try simp only [dT, dF, nT, nF, tF, fT] at hc73
          refine cj_seq (fun K93 hK93 => ?_)
          refine cj_region ?_
          refine rv0 rfl rfl rfl (y_seql rfl rfl) ?_
          refine rv0 rfl rfl rfl (y_assign rfl) ?_
          refine rj_nil ?_
          refine hK93 _ _ _ ?_
          refine cj_condt rfl (fun hc73 => ?_) (fun hc73 => ?_)
          ·first | (have h73 : fam op = 1 ∨ fam op = 3 := by rw [Op.is hc73 rfl]; decide) | have h73 := h73t hc73
           refine cj_skip ?_
           refine ej_join hJ29 (true) (⟨fun _ => h73, fun h => by cases h⟩) (eC rfl (eC rfl (eC rfl (eC rfl eN)))) rfl (by (repeat (first|exact zR _|(apply zP;focus (repeat (first|exact zH _|apply zT)))|apply zD|exact zA _ _)))
          ·try simp only [dT, dF, nT, nF, tF, fT] at hc73
           refine cj_seq (fun K95 hK95 => ?_)
           refine cj_region ?_
           refine rv0 rfl rfl rfl (y_seql rfl rfl) ?_
           refine rv0 rfl rfl rfl (y_assign rfl) ?_
           refine rj_nil ?_
           refine hK95 _ _ _ ?_
           refine cj_condt rfl (fun hc73 => ?_) (fun hc73 => ?_)
           ·first | (have h73 : fam op = 1 ∨ fam op = 3 := by rw [Op.is hc73 rfl]; decide) | have h73 := h73t hc73
            refine cj_skip ?_
            refine ej_join hJ29 (true) (⟨fun _ => h73, fun h => by cases h⟩) (eC rfl (eC rfl (eC rfl (eC rfl eN)))) rfl (by (repeat (first|exact zR _|(apply zP;focus (repeat (first|exact zH _|apply zT)))|apply zD|exact zA _ _)))
           ·try simp only [dT, dF, nT, nF, tF, fT] at hc73
            refine cj_seq (fun K97 hK97 => ?_)
            refine cj_region ?_
            refine rv0 rfl rfl rfl (y_seql rfl rfl) ?_
            refine rv0 rfl rfl rfl (y_assign rfl) ?_
            refine rj_nil ?_
            refine hK97 _ _ _ ?_
            refine cj_env (eL 2 rfl (eL 8 rfl (eL 54 rfl (eL 73 rfl eN)))) ?_
            refine cj_condt rfl (fun hc73 => ?_) (fun hc73 => ?_)
            ·first | (have h73 : fam op = 1 ∨ fam op = 3 := by rw [Op.is hc73 rfl]; decide) | have h73 := h73t hc73
             refine cj_skip ?_
             refine ej_join hJ29 (true) (⟨fun _ => h73, fun h => by cases h⟩) (eC rfl (eC rfl (eC rfl (eC rfl eN)))) rfl (by (repeat (first|exact zR _|(apply zP;focus (repeat (first|exact zH _|apply zT)))|apply zD|exact zA _ _)))
            ·try simp only [dT, dF, nT, nF, tF, fT] at hc73
             refine cj_seq (fun K99 hK99 => ?_)
             refine cj_region ?_
             refine rv0 rfl rfl rfl (y_seql rfl rfl) ?_
             refine rv0 rfl rfl rfl (y_assign rfl) ?_
             refine rj_nil ?_
             refine hK99 _ _ _ ?_
             refine cj_condt rfl (fun hc73 => ?_) (fun hc73 => ?_)
             ·first | (have h73 : fam op = 1 ∨ fam op = 3 := by rw [Op.is hc73 rfl]; decide) | have h73 := h73t hc73
              refine cj_skip ?_
              refine ej_join hJ29 (true) (⟨fun _ => h73, fun h => by cases h⟩) (eC rfl (eC rfl (eC rfl (eC rfl eN)))) rfl (by (repeat (first|exact zR _|(apply zP;focus (repeat (first|exact zH _|apply zT)))|apply zD|exact zA _ _)))
             ·try simp only [dT, dF, nT, nF, tF, fT] at hc73
              refine cj_region ?_
              refine rv0 rfl rfl rfl (y_seql rfl rfl) ?_
              refine rv0 rfl rfl rfl (y_assign rfl) ?_
              refine rj_nil ?_
              refine ej_join hJ29 ((decide (op.str = [110, 101, 103]))) (⟨fun h => by rw [Op.is h rfl]; decide, fun h => by clear hcall hk hx hwf hst hme hm dsum dmin dmax har; cases op <;> simp_all [Op.str, fam]⟩) (eC rfl (eC rfl (eC rfl (eC rfl eN)))) rfl (by (repeat (first|exact zR _|(apply zP;focus (repeat (first|exact zH _|apply zT)))|apply zD|exact zA _ _)))
  refine cj_seq (fun K101 hK101 => ?_)
  refine cj_region ?_
  refine rv0 rfl rfl rfl (y_fieldAddr (k := 0) Try.underlying29 rfl (n := 1) (by decide) Try.sizeOf9 rfl) ?_
  first | refine rv0 rfl rfl rfl (y_load ⟨Try.isAgg9, Try.sizeOf9⟩ rfl (by (repeat (first|exact zH _|apply zT));done) rfl) ?_ | refine rv0 rfl rfl rfl (y_load_slc ⟨Try.isAgg9, Try.sizeOf9⟩ rfl (by (repeat (first|exact zH _|apply zT));done) rfl) ?_
  refine rv0 rfl rfl rfl (y_seql rfl rfl) ?_
  refine rv0 rfl rfl rfl (y_move rfl) ?_
  refine rj_part 18 rfl (fun hg18 => ?_) (fun hg18 => ?_)
  ·try simp only [dT, dF, nT, nF, tF, fT] at hg18
   refine rj_skip (wn2 rfl rfl rfl rfl rfl) rfl rfl ?_
   refine rj_skip (wn2 rfl rfl rfl rfl rfl) rfl rfl ?_
   refine rj_skip (wn2 rfl rfl rfl rfl rfl) rfl rfl ?_
   refine rv0 rfl rfl rfl (y_pick_t rfl rfl) ?_
   refine rv0 rfl rfl rfl (y_move rfl) ?_
   refine rj_skip (wn2 rfl rfl rfl rfl rfl) rfl rfl ?_
   refine rj_skip (wn2 rfl rfl rfl rfl rfl) rfl rfl ?_
   refine rj_skip (wn2 rfl rfl rfl rfl rfl) rfl rfl ?_
   refine rv0 rfl rfl rfl (y_pick_t rfl rfl) ?_
   refine rj_nil ?_
   refine hK101 _ _ _ ?_
   refine cj_env (eL 1 rfl (eL 2 rfl (eL 3 rfl (eL 8 rfl (eL 9 rfl (eL 27 rfl eN)))))) ?_
   refine cj_cond_t rfl ?_
   refine cj_region ?_
   refine rv0 rfl rfl rfl (y_assign rfl) ?_
   refine rj_nil ?_
   refine ej_join hJ5 (()) (trivial) (eC rfl (eC rfl (eC rfl (eC rfl (Env.le_cons (Eq.trans rfl (congrArg some (by first | rfl | (congr 1; simp_all)))) eN))))) rfl (by (repeat (first|exact zR _|(apply zP;focus (repeat (first|exact zH _|apply zT)))|apply zD|exact zA _ _)))
  ·try simp only [dT, dF, nT, nF, tF, fT] at hg18
   refine rj_val (wn1 rfl rfl rfl rfl) rfl rfl (y_fieldAddr (k := 0) Try.underlying29 rfl (n := 1) (by decide) Try.sizeOf9 rfl) ?_
   first | refine rj_val (wn1 rfl rfl rfl rfl) rfl rfl (y_load ⟨Try.isAgg9, Try.sizeOf9⟩ rfl (by (repeat (first|exact zH _|apply zT));done) rfl) ?_ | refine rj_val (wn1 rfl rfl rfl rfl) rfl rfl (y_load_slc ⟨Try.isAgg9, Try.sizeOf9⟩ rfl (by (repeat (first|exact zH _|apply zT));done) rfl) ?_
   refine rj_val (wn1 rfl rfl rfl rfl) rfl rfl (y_seql rfl rfl) ?_
   refine rv0 rfl rfl rfl (y_pick_f rfl rfl) ?_
   refine rv0 rfl rfl rfl (y_move rfl) ?_
   refine rj_part 23 rfl (fun hg23 => ?_) (fun hg23 => ?_)
   ·try simp only [dT, dF, nT, nF, tF, fT] at hg23
    refine rj_skip (wn2 rfl rfl rfl rfl rfl) rfl rfl ?_
    refine rj_skip (wn2 rfl rfl rfl rfl rfl) rfl rfl ?_
    refine rj_skip (wn2 rfl rfl rfl rfl rfl) rfl rfl ?_
    refine rv0 rfl rfl rfl (y_pick_t rfl rfl) ?_
    refine rj_nil ?_
    refine hK101 _ _ _ ?_
    refine cj_env (eL 1 rfl (eL 2 rfl (eL 3 rfl (eL 8 rfl (eL 9 rfl (eL 27 rfl eN)))))) ?_
    refine cj_cond_t rfl ?_
    refine cj_region ?_
    refine rv0 rfl rfl rfl (y_assign rfl) ?_
    refine rj_nil ?_
    refine ej_join hJ5 (()) (trivial) (eC rfl (eC rfl (eC rfl (eC rfl (Env.le_cons (Eq.trans rfl (congrArg some (by first | rfl | (congr 1; simp_all)))) eN))))) rfl (by (repeat (first|exact zR _|(apply zP;focus (repeat (first|exact zH _|apply zT)))|apply zD|exact zA _ _)))
   ·try simp only [dT, dF, nT, nF, tF, fT] at hg23
    refine rj_val (wn1 rfl rfl rfl rfl) rfl rfl (y_fieldAddr (k := 0) Try.underlying29 rfl (n := 1) (by decide) Try.sizeOf9 rfl) ?_
    first | refine rj_val (wn1 rfl rfl rfl rfl) rfl rfl (y_load ⟨Try.isAgg9, Try.sizeOf9⟩ rfl (by (repeat (first|exact zH _|apply zT));done) rfl) ?_ | refine rj_val (wn1 rfl rfl rfl rfl) rfl rfl (y_load_slc ⟨Try.isAgg9, Try.sizeOf9⟩ rfl (by (repeat (first|exact zH _|apply zT));done) rfl) ?_
    refine rj_val (wn1 rfl rfl rfl rfl) rfl rfl (y_seql rfl rfl) ?_
    refine rv0 rfl rfl rfl (y_pick_f rfl rfl) ?_
    refine rj_nil ?_
    refine hK101 _ _ _ ?_
    refine cj_env (eL 1 rfl (eL 2 rfl (eL 3 rfl (eL 8 rfl (eL 9 rfl (eL 27 rfl eN)))))) ?_
    refine cj_condt rfl (fun hc27 => ?_) (fun hc27 => ?_)
    ·try simp only [dT, dF, nT, nF, tF, fT] at hc27
     refine cj_region ?_
     refine rv0 rfl rfl rfl (y_assign rfl) ?_
     refine rj_nil ?_
     refine ej_join hJ5 (()) (trivial) (eC rfl (eC rfl (eC rfl (eC rfl (Env.le_cons (Eq.trans rfl (congrArg some (by first | rfl | (congr 1; simp_all)))) eN))))) rfl (by (repeat (first|exact zR _|(apply zP;focus (repeat (first|exact zH _|apply zT)))|apply zD|exact zA _ _)))
    ·try simp only [dT, dF, nT, nF, tF, fT] at hc27
     refine cj_skip ?_
     refine ej_join hJ5 (()) (trivial) (eC rfl (eC rfl (eC rfl (eC rfl (Env.le_cons (Eq.trans rfl (congrArg some (by first | rfl | (congr 1; simp_all)))) eN))))) rfl (by (repeat (first|exact zR _|(apply zP;focus (repeat (first|exact zH _|apply zT)))|apply zD|exact zA _ _)))
end V
end Go.Proofs.Ytghgifgmacapcaa
