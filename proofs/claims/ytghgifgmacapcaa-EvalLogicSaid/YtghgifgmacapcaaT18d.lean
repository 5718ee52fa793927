/- Kinds, walked. -/
import Derived.Test.YtghgifgmacapcaaT18c
set_option linter.unusedSimpArgs false
set_option linter.unusedVariables false
set_option maxRecDepth 100000
namespace Go.Proofs.Ytghgifgmacapcaa
open Go.RowKit
namespace V
set_option maxHeartbeats 4000000
/-- the last step of a kind -/
def kstep (cols : List Cl) (may : Bool) (op : Op) (v : Vl) (name : Bs) (r : List Int × Int) : Int × Int :=
  if r.2 ≠ 0 then (0, r.2) else
  if fam op = 1 ∨ fam op = 3 then (if r.1.contains 2 then (0, 22) else (1, 0))
  else if fam op = 2 then (if r.1.contains 2 && r.1.contains 1 then (0, 22) else (1, 0))
  else if fam op = 4 then (if r.1.contains 1 then (0, 22) else (2, 0))
  else if fam op = 5 then (if !may || (decide (op = .sum) && r.1.contains 2) then (0, 22) else if op = .min ∨ op = .max then (r.1.getD 0 0, 0) else (1, 0))
  else if op = .col then (if placeC cols name < 0 then (0, 21) else ((cols.getD (placeC cols name).toNat ⟨[], 0, 0⟩).kind, 0))
  else if op = .isnull then (1, 0)
  else (v.kind, 0)
theorem kindX_step (cols : List Cl) (may : Bool) (op : Op) (v : Vl) (name : Bs) (kids : List Ex) : kindX cols may (.mk op v name kids) = kstep cols may op v name (kindsX cols (may && decide (¬ fam op = 5)) kids) := by rw [kindX]; rfl
theorem kinds_t {R : Hp} (x : Ex) (cs : List Value) (hx : RepX R x cs) (hk2 : x.kids.length ≤ 2) (cols : List Cl) (vc : Value) (may : Bool)
    (hcall : ∀ y cy, y ∈ x.kids → RepX R y cy → QTri Try.prog 34 [.agg ⟨cy⟩, vc, .bool may] R [] (tupOf [.int .i64 (kindX cols may y).1, .int .i64 (kindX cols may y).2])) :
    Tri Try.prog 50 [.agg ⟨cs⟩, vc, .bool may] R [] (fun u R' L' => L' = [] ∧ ∃ v, u = tupOf [v, .int .i64 (kindsX cols may x.kids).2] ∧ FrX intE R' (kindsX cols may x.kids).1 v) := by
  obtain ⟨op, v, name, kids, vk, rfl, rfl, hk⟩ := hx.inv
  obtain ⟨q, cap, rfl, hcap, hcm⟩ := hk.shape
  have hlb : kids.length ≤ 2 := hk2
  unfold exC
  refine tri_of Try.func50 rfl Try.ntmps50 rfl (fun σ F Q hret hend hpan => ?_)
  try simp only [List.cons_append, List.nil_append]
  refine cj_env (eL 0 rfl (eL 1 rfl (eL 2 rfl eN))) ?_
  refine cj_seq (fun K1 hK1 => ?_)
  refine cj_region ?_
  refine rj_box (wn0 rfl) rfl rfl rfl (fun b3 => ?_)
  refine rv0 rfl rfl rfl (y_assign rfl) ?_
  refine rv0 rfl rfl rfl (y_assign rfl) ?_
  refine rj_nil ?_
  refine hK1 _ _ _ ?_
  refine cj_env (eL 1 rfl (eL 2 rfl (eL 3 rfl eN))) ?_
  refine cj_seq (fun K2 hK2 => ?_)
  refine cj_region ?_
  refine rv0 rfl rfl rfl (y_assign rfl) ?_
  refine rj_add (A := slc 3 1 (.slice none 0 0) 0 (intsV [])) (slc_nil _ _) ?_
  refine rj_nil ?_
  refine hK2 _ _ _ ?_
  refine cj_seq (fun K3 hK3 => ?_)
  refine cj_seq (fun K4 hK4 => ?_)
  refine cj_region ?_
  refine rv0 rfl rfl rfl (y_fieldAddr (k := 5) Try.underlying29 rfl (n := 1) (by decide) Try.sizeOf27 rfl) ?_
  first | refine rv0 rfl rfl rfl (y_load ⟨Try.isAgg27, Try.sizeOf27⟩ rfl (by (repeat (first|exact zH _|apply zT));done) rfl) ?_ | refine rv0 rfl rfl rfl (y_load_slc ⟨Try.isAgg27, Try.sizeOf27⟩ rfl (by (repeat (first|exact zH _|apply zT));done) rfl) ?_
  first | refine rv0 rfl rfl rfl (y_len_sl Try.underlying27 rfl) ?_ | refine rv0 rfl rfl rfl (y_len_slc Try.underlying27 rfl (by (repeat (first|exact zH _|apply zT));done)) ?_
  refine rv0 rfl rfl rfl (y_move rfl) ?_
  refine rj_nil ?_
  refine hK4 _ _ _ ?_
  refine cj_block ?_
  refine cj_env (E' := (fun (x : Nat × Value) => [(1, vc), (2, .bool may), (8, x.2), (14, .slice q kids.length cap), (15, .int .i64 (kids.length : Int)), (16, .int .i64 (x.1 : Int))]) (0, .slice none 0 0)) (eC rfl (eC rfl (eC rfl (eC rfl (eC rfl (eC rfl eN)))))) ?_
  refine cj_sub (M := (fun (x : Nat × Value) => slc 3 1 x.2 (kindsX cols may (kids.take x.1)).1.length (intsV (kindsX cols may (kids.take x.1)).1) :: F) (0, .slice none 0 0)) (by (repeat (first|exact zR _|(apply zP;focus (repeat (first|exact zH _|apply zT)))|apply zD|exact zA _ _))) ?_
  refine cj_loop (fun (x : Nat × Value) => [(1, vc), (2, .bool may), (8, x.2), (14, .slice q kids.length cap), (15, .int .i64 (kids.length : Int)), (16, .int .i64 (x.1 : Int))]) (fun (x : Nat × Value) => R) (fun (x : Nat × Value) => slc 3 1 x.2 (kindsX cols may (kids.take x.1)).1.length (intsV (kindsX cols may (kids.take x.1)).1) :: F) (fun (x : Nat × Value) => x.1 ≤ kids.length ∧ (kindsX cols may (kids.take x.1)).2 = 0 ∧ x.2.oneCell' = true) (fun (x : Nat × Value) => kids.length - x.1) (0, .slice none 0 0) (⟨by simp, by simp [kindsX], rfl⟩) ?_
  rintro ⟨i, vl⟩ ⟨hi, hall, hvo⟩
  try dsimp only
  dsimp only at hi hall hvo
  refine cj_seq (fun K5 hK5 => ?_)
  refine cj_region ?_
  refine rv0 rfl rfl rfl (y_lss rfl rfl) ?_
  refine rj_nil ?_
  refine hK5 _ _ _ ?_
  refine cj_seq (fun K6 hK6 => ?_)
  refine cj_cond rfl (fun hc17 => ?_) (fun hc17 => ?_)
  ·try simp only [dT, dF, nT, nF, tF, fT] at hc17
   refine cj_skip ?_
   refine hK6 _ _ _ ?_
   refine cj_seq (fun K8 hK8 => ?_)
   refine cj_block ?_
   refine cj_seq (fun K9 hK9 => ?_)
   refine cj_region ?_
   have hi2 : i < kids.length := by (try simp at hc17); omega
   obtain ⟨y, hy⟩ : ∃ x, kids[i]? = some x := ⟨kids[i]'(by omega), by simp⟩
   obtain ⟨b, off, cap', cy, he, hrep, hcl, hcell⟩ := hk.at hy
   obtain ⟨rfl, rfl⟩ : q = some ⟨b, off, none⟩ ∧ cap = cap' := by cases he; exact ⟨rfl, rfl⟩
   first | refine rv0 rfl rfl rfl (y_indexAddr Try.underlying27 Try.sizeOf29 rfl rfl (by (first | omega | (dsimp only; omega) | (simp; done) | (simp; omega)))) ?_ | refine rv0 rfl rfl rfl (y_index_slc Try.underlying27 Try.sizeOf29 rfl rfl (by (repeat (first|exact zH _|apply zT));done) (by (first | omega | (dsimp only; omega) | (simp; done) | (simp; omega)))) ?_
   refine rv0 rfl rfl rfl ((y_loads_ro ⟨Try.isAgg29, Try.sizeOf29⟩ (vs := cy) hcl rfl (fun j u hj => hcell j u hj))) ?_
   refine rj_alloc (wn0 rfl) rfl Try.zeroValue29 rfl (fun b10 => ?_)
   refine rj_stores_all (vs := cy) ⟨Try.isAgg29, Try.sizeOf29⟩ hrep.len (wn0 rfl) rfl rfl hrep.one (by (repeat (first|exact zH _|apply zT));done) rfl ?_
   refine rj_nil ?_
   refine hK9 _ _ _ ?_
   refine cj_env (eL 1 rfl (eL 2 rfl (eL 8 rfl (eL 10 rfl (eL 14 rfl (eL 15 rfl (eL 16 rfl eN))))))) ?_
   refine cj_seq (fun K10 hK10 => ?_)
   refine cj_region ?_
   refine rv0 rfl rfl rfl ((y_loads_all (vs := cy) ⟨Try.isAgg29, Try.sizeOf29⟩ hrep.len rfl (by (repeat (first|exact zH _|apply zT));done))) ?_
   refine rv0 rfl rfl rfl (y_move rfl) ?_
   refine rv0 rfl rfl rfl (y_move rfl) ?_
   refine rv0 rfl rfl rfl (y_call Try.call34 rfl (hcall y cy (List.mem_of_getElem? hy) hrep) (by (repeat (first|exact zN _|(apply zS;focus (repeat (first|exact zH _|apply zT))))))) ?_
   refine rv0 rfl rfl rfl (y_move rfl) ?_
   refine rv0 rfl rfl rfl (y_extract rfl rfl) ?_
   refine rv0 rfl rfl rfl (y_extract rfl rfl) ?_
   refine rv0 rfl rfl rfl (y_assign rfl) ?_
   refine rv0 rfl rfl rfl (y_assign rfl) ?_
   refine rj_nil ?_
   refine hK10 _ _ _ ?_
   refine cj_env (eL 1 rfl (eL 2 rfl (eL 8 rfl (eL 11 rfl (eL 12 rfl (eL 14 rfl (eL 15 rfl (eL 16 rfl eN)))))))) ?_
   refine cj_seq (fun K11 hK11 => ?_)
   refine cj_seq (fun K12 hK12 => ?_)
   refine cj_region ?_
   refine rv0 rfl rfl rfl (y_move rfl) ?_
   refine rv0 rfl rfl rfl (y_neq rfl rfl) ?_
   refine rj_nil ?_
   refine hK12 _ _ _ ?_
   refine cj_cond rfl (fun hc28 => ?_) (fun hc28 => ?_)
   ·have hk0 : ¬ (kindX cols may y).2 = 0 := by simpa using hc28
    refine cj_seq (fun K14 hK14 => ?_)
    refine cj_region ?_
    refine rv0 rfl rfl rfl (y_move rfl) ?_
    refine rv0 rfl rfl rfl (y_assign rfl) ?_
    refine rv0 rfl rfl rfl (y_assign rfl) ?_
    refine rj_nil ?_
    refine hK14 _ _ _ ?_
    refine cj_env (eL 6 rfl (eL 7 rfl eN)) ?_
    refine cj_ret ?_
    refine hret _ _ _ ?_
    apply ej_ret Try.results50 (.cons (rv_tmp rfl) (.cons (rv_tmp rfl) .nil)) _ [] (by (first | exact Hp.le_refl _ | assumption | exact Hp.le_trans ‹_› ‹_›)) rfl
    case hp => refine ⟨rfl, .slice none 0 0, ?_, ?_⟩; rw [Ex.kids, kindsX_err hall hy hk0]; rfl; rw [Ex.kids, kindsX_err hall hy hk0]; exact FrX.nil
    case hS => (repeat (first|exact zR _|(apply zP;focus (repeat (first|exact zH _|apply zT)))|apply zD|exact zA _ _))
   ·have hk0 : (kindX cols may y).2 = 0 := by simpa using hc28
    have hsn := kindsX_snoc hall hy hk0
    have hkl : (kindsX cols may (kids.take i)).1.length = i := by rw [kindsX_len hall]; simp; omega
    refine cj_skip ?_
    refine hK11 _ _ _ ?_
    refine cj_env (eL 1 rfl (eL 2 rfl (eL 8 rfl (eL 11 rfl (eL 14 rfl (eL 15 rfl (eL 16 rfl eN))))))) ?_
    refine cj_region ?_
    refine rv0 rfl rfl rfl (y_move rfl) ?_
    refine rv0 rfl rfl rfl (y_move rfl) ?_
    refine rj_buildSlice (sz := 1) (wn0 rfl) rfl Try.underlying88 Try.sizeOf3 Try.zeroValue3 rfl rfl rfl (by decide) (by decide) (fun bz => ?_)
    refine rj_append (sz := 1) (by_ := 8) ⟨Try.underlying88, _, _, rfl, rfl, rfl, rfl, rfl⟩ (wn0 rfl) rfl rfl rfl (by (repeat (first|exact zH _|apply zT));done) (src_slc (xs := [.int .i64 (kindX cols may y).1]) Try.underlying88 (by (repeat (first|exact zH _|apply zT));done) (by (first | (simp [Value.oneCell']; done) | (intro u hu; simp only [List.mem_cons, List.not_mem_nil, or_false] at hu; rcases hu with rfl | rfl | rfl | rfl <;> first | rfl | assumption)))) rfl (by (first | omega | (dsimp only; omega) | (simp; done) | (simp; omega))) (by simp only [maxLen]; omega) (fun v33 ho33 hh33 => ?_)
    rw [show intsV (kindsX cols may (kids.take i)).1 ++ [Value.int .i64 (kindX cols may y).1] = intsV (kindsX cols may (kids.take (i + 1))).1 by rw [hsn]; simp [intsV], show (kindsX cols may (kids.take i)).1.length + 1 = (kindsX cols may (kids.take (i + 1))).1.length by rw [hsn]; simp]
    refine rv0 rfl rfl rfl (y_assign rfl) ?_
    refine rj_nil ?_
    refine hK8 _ _ _ ?_
    refine cj_env (eL 1 rfl (eL 2 rfl (eL 8 rfl (eL 14 rfl (eL 15 rfl (eL 16 rfl eN)))))) ?_
    refine cj_region ?_
    first | refine rv0 rfl rfl rfl (y_add64 rfl rfl (by (first | omega | (dsimp only; omega) | (simp; done) | (simp; omega)))) ?_ | refine rv0 rfl rfl rfl (y_add rfl rfl) ?_
    refine rv0 rfl rfl rfl (y_move rfl) ?_
    refine rj_nil ?_
    refine ej_on (q' := roundK _ _ _ _ _ _ _) rfl ?_
    refine ej_round ((i + 1, v33)) (⟨by dsimp only; omega, by dsimp only; rw [kindsX_snoc hall hy hk0], by assumption⟩) (by dsimp only; omega) (eC rfl (eC rfl (eC rfl (eC rfl (eC rfl (eC rfl eN)))))) rfl (by (repeat (first|exact zR _|(apply zP;focus (repeat (first|exact zH _|apply zT)))|apply zD|exact zA _ _)))
  ·try simp only [dT, dF, nT, nF, tF, fT] at hc17
   refine cj_exit ?_
   refine hK3 _ _ _ ?_
   refine cj_env (eL 8 rfl eN) ?_
   refine cj_seq (fun K15 hK15 => ?_)
   refine cj_region ?_
   obtain rfl : i = kids.length := by (try simp at hc17); omega
   have hke : kids.take kids.length = kids := by simp
   refine rj_freeze (e := 3) (sz := 1) (n := (kindsX cols may (kids.take kids.length)).1.length) (v := vl) (xs := intsV (kindsX cols may (kids.take kids.length)).1) (by (repeat (first|exact zH _|apply zT));done) (fun R2 hR2 hfr hxl => ?_)
   rw [hke] at hall hfr
   refine rv0 rfl rfl rfl (y_move rfl) ?_
   refine rv0 rfl rfl rfl (y_assign rfl) ?_
   refine rv0 rfl rfl rfl (y_assign rfl) ?_
   refine rj_nil ?_
   refine hK15 _ _ _ ?_
   refine cj_ret ?_
   refine hret _ _ _ ?_
   apply ej_ret Try.results50 (.cons (rv_tmp rfl) (.cons (rv_tmp rfl) .nil)) _ [] (by (first | exact Hp.le_refl _ | assumption | exact Hp.le_trans ‹_› ‹_›)) rfl
   case hp => refine ⟨rfl, _, ?_, intsFr hfr⟩; rw [Ex.kids, hall]
   case hS => (repeat (first|exact zR _|(apply zP;focus (repeat (first|exact zH _|apply zT)))|apply zD|exact zA _ _))
theorem kind_q (N : Nat) : ∀ (x : Ex) (cs : List Value) {R : Hp} (cols : List Cl) (vc : Value) (may : Bool), SizeOf.sizeOf x ≤ N → WfX x → RepX R x cs → FrX colE R cols vc → QTri Try.prog 34 [.agg ⟨cs⟩, vc, .bool may] R [] (tupOf [.int .i64 (kindX cols may x).1, .int .i64 (kindX cols may x).2]) := by
  induction N using Nat.strongRecOn with
  | _ N ih =>
  intro x cs R cols vc may hN hwf hx hcols
  have hvc := hcols.one
  have hks : ∀ m, Tri Try.prog 50 [.agg ⟨cs⟩, vc, .bool m] R [] (fun u R' L' => L' = [] ∧ ∃ v, u = tupOf [v, .int .i64 (kindsX cols m x.kids).2] ∧ FrX intE R' (kindsX cols m x.kids).1 v) := fun m =>
    kinds_t x cs hx (by cases x with | mk op v name kids => rw [Ex.kids, hwf.inv.1]; cases op <;> decide) cols vc m (fun y cy hm hy => by
      cases x with
      | mk op v name kids => exact ih (SizeOf.sizeOf y) (by have := List.sizeOf_lt_of_mem hm; simp [Ex.kids] at hN this; omega) y cy cols vc m (Nat.le_refl _) (hwf.inv.2.2.2 y hm) hy hcols)
  obtain ⟨op, v, name, kids, vk, rfl, rfl, hk⟩ := hx.inv
  have hxo := hx.one
  have hvk := hk.one
  clear ih
  have hst := kindX_step cols may op v name kids
  obtain ⟨ks, er, hke⟩ : ∃ ks er, kindsX cols (may && decide (¬ fam op = 5)) kids = (ks, er) := ⟨_, _, rfl⟩
  rw [hke] at hst
  refine Tri.q2 ?_
  have dsum : op.str = [115, 117, 109] ↔ op = .sum := by cases op <;> decide
  have dmin : op.str = [109, 105, 110] ↔ op = .min := by cases op <;> decide
  have dmax : op.str = [109, 97, 120] ↔ op = .max := by cases op <;> decide
  have dcol : op.str = [99, 111, 108] ↔ op = .col := by cases op <;> decide
  have dnul : op.str = [105, 115, 110, 117, 108, 108] ↔ op = .isnull := by cases op <;> decide
  have exo : exC op.str v name vk = [.string (str op.str), .int .i64 v.kind, .int .i64 v.n, .string (str v.s), .string (str name), vk] := rfl
  refine tri_of Try.func34 rfl Try.ntmps34 rfl (fun σ F Q hret hend hpan => ?_)
  try simp only [List.cons_append, List.nil_append]
  refine cj_env (eL 0 rfl (eL 1 rfl (eL 2 rfl eN))) ?_
  refine cj_seq (fun K1 hK1 => ?_)
  refine cj_region ?_
  refine rj_box (wn0 rfl) rfl rfl rfl (fun b3 => ?_)
  refine rv0 rfl rfl rfl (y_assign rfl) ?_
  refine rv0 rfl rfl rfl (y_assign rfl) ?_
  refine rj_nil ?_
  refine hK1 _ _ _ ?_
  refine cj_env (eL 1 rfl (eL 2 rfl (eL 3 rfl eN))) ?_
  refine cj_seq (fun K2 hK2 => ?_)
  refine cj_region ?_
  refine rv0 rfl rfl rfl (y_fieldAddr (k := 0) Try.underlying29 rfl (n := 1) (by decide) Try.sizeOf9 rfl) ?_
  refine rv0 rfl rfl rfl ((y_load (v := .string (str op.str)) ⟨Try.isAgg9, Try.sizeOf9⟩ rfl (by (repeat (first|exact zH _|apply zT));done) rfl)) ?_
  refine rv0 rfl rfl rfl (y_call Try.call38 rfl (of_q op) (by (repeat (first|exact zN _|(apply zS;focus (repeat (first|exact zH _|apply zT))))))) ?_
  refine rv0 rfl rfl rfl (y_assign rfl) ?_
  refine rj_nil ?_
  refine hK2 _ _ _ ?_
  refine cj_env (eL 1 rfl (eL 2 rfl (eL 3 rfl (eL 8 rfl eN)))) ?_
  refine cj_seq (fun K3 hK3 => ?_)
  have hJ3 : ∀ (x : Hp × Value × Nat), R.le x.1 ∧ FrX intE x.1 ks x.2.1 → EJ ⟨Try.prog, 93, σ⟩ K3 [(1, vc), (2, .bool may), (3, .pointer (some ⟨b3, 0, none⟩)), (8, .int .i64 (fam op)), (9, .pointer (some ⟨x.2.2, 0, none⟩)), (10, .int .i64 er)] x.1 (blk b3 [.string (str op.str), .int .i64 v.kind, .int .i64 v.n, .string (str v.s), .string (str name), vk] 29 :: blk x.2.2 [x.2.1] 88 :: F) := by
   rintro ⟨R3, vl, b9⟩ ⟨hR3, hfr⟩
   try dsimp only
   dsimp only at hR3 hfr
   have hcols3 := hcols.mono hR3
   refine hK3 _ _ _ ?_
   refine cj_seq (fun K4 hK4 => ?_)
   refine cj_seq (fun K5 hK5 => ?_)
   refine cj_region ?_
   refine rv0 rfl rfl rfl (y_move rfl) ?_
   refine rv0 rfl rfl rfl (y_neq rfl rfl) ?_
   refine rj_nil ?_
   refine hK5 _ _ _ ?_
   refine cj_cond rfl (fun hc28 => ?_) (fun hc28 => ?_)
   ·try simp only [dT, dF, nT, nF, tF, fT] at hc28
    refine cj_seq (fun K7 hK7 => ?_)
    refine cj_region ?_
    refine rv0 rfl rfl rfl (y_move rfl) ?_
    refine rv0 rfl rfl rfl (y_assign rfl) ?_
    refine rv0 rfl rfl rfl (y_assign rfl) ?_
    refine rj_nil ?_
    refine hK7 _ _ _ ?_
    refine cj_env (eL 6 rfl (eL 7 rfl eN)) ?_
    refine cj_ret ?_
    refine hret _ _ _ ?_
    apply ej_ret Try.results34 (.cons (rv_tmp rfl) (.cons (rv_tmp rfl) .nil)) _ [] hR3 rfl
    case hp => refine ⟨?_, rfl⟩; rw [hst]; clear hst hke hks hwf hx; simp_all [kstep, tupOf] <;> first | rfl | (rw [if_neg (by omega)]; exact ⟨rfl, rfl⟩)
    case hS => (repeat (first|exact zR _|(apply zP;focus (repeat (first|exact zH _|apply zT)))|apply zD|exact zA _ _))
   ·try simp only [dT, dF, nT, nF, tF, fT] at hc28
    refine cj_skip ?_
    refine hK4 _ _ _ ?_
    refine cj_env (eL 1 rfl (eL 2 rfl (eL 3 rfl (eL 8 rfl (eL 9 rfl eN))))) ?_
    refine cj_seq (fun K8 hK8 => ?_)
    refine cj_region ?_
    refine rv0 rfl rfl rfl (y_makeFunc rfl rfl) ?_
    refine rv0 rfl rfl rfl (y_assign rfl) ?_
    refine rj_nil ?_
    refine hK8 _ _ _ ?_
    refine cj_seq (fun K9 hK9 => ?_)
    refine cj_seq (fun K10 hK10 => ?_)
    refine cj_region ?_
    refine rv0 rfl rfl rfl (y_move rfl) ?_
    refine rj_nil ?_
    refine hK10 _ _ _ ?_
    refine cj_block ?_
    refine cj_seq (fun K11 hK11 => ?_)
    refine cj_seq (fun K12 hK12 => ?_)
    refine cj_region ?_
    refine rv0 rfl rfl rfl (y_eql rfl rfl) ?_
    refine rv0 rfl rfl rfl (y_assign rfl) ?_
    refine rj_nil ?_
    refine hK12 _ _ _ ?_
    refine cj_env (eL 1 rfl (eL 2 rfl (eL 3 rfl (eL 9 rfl (eL 11 rfl (eL 31 rfl (eL 32 rfl eN))))))) ?_
    refine cj_cond rfl (fun hc32 => ?_) (fun hc32 => ?_)
    ·try simp only [dT, dF, nT, nF, tF, fT] at hc32
     refine cj_skip ?_
     refine hK11 _ _ _ ?_
     refine cj_cond rfl (fun hc32 => ?_) (fun hc32 => ?_)
     ·try simp only [dT, dF, nT, nF, tF, fT] at hc32
      refine cj_seq (fun K15 hK15 => ?_)
      refine cj_seq (fun K16 hK16 => ?_)
      refine cj_region ?_
      refine rv0 rfl rfl rfl (y_move rfl) ?_
      refine rv0 rfl rfl rfl (y_callv rfl Try.call51 rfl (kind1_q ks vl hfr 2 b9) (by (repeat (first|exact zN _|(apply zS;focus (repeat (first|exact zH _|apply zT))))))) ?_
      refine rj_nil ?_
      refine hK16 _ _ _ ?_
      refine cj_env (eL 36 rfl eN) ?_
      refine cj_cond rfl (fun hc36 => ?_) (fun hc36 => ?_)
      ·try simp only [dT, dF, nT, nF, tF, fT] at hc36
       refine cj_seq (fun K18 hK18 => ?_)
       refine cj_region ?_
       refine rv0 rfl rfl rfl (y_assign rfl) ?_
       refine rv0 rfl rfl rfl (y_assign rfl) ?_
       refine rj_nil ?_
       refine hK18 _ _ _ ?_
       refine cj_ret ?_
       refine hret _ _ _ ?_
       apply ej_ret Try.results34 (.cons (rv_tmp rfl) (.cons (rv_tmp rfl) .nil)) _ [] hR3 rfl
       case hp => refine ⟨?_, rfl⟩; rw [hst]; clear hst hke hks hwf hx; simp_all [kstep, tupOf] <;> first | rfl | (rw [if_neg (by omega)]; exact ⟨rfl, rfl⟩)
       case hS => (repeat (first|exact zR _|(apply zP;focus (repeat (first|exact zH _|apply zT)))|apply zD|exact zA _ _))
      ·try simp only [dT, dF, nT, nF, tF, fT] at hc36
       refine cj_skip ?_
       refine hK15 _ _ _ ?_
       refine cj_seq (fun K19 hK19 => ?_)
       refine cj_region ?_
       refine rv0 rfl rfl rfl (y_assign rfl) ?_
       refine rv0 rfl rfl rfl (y_assign rfl) ?_
       refine rj_nil ?_
       refine hK19 _ _ _ ?_
       refine cj_ret ?_
       refine hret _ _ _ ?_
       apply ej_ret Try.results34 (.cons (rv_tmp rfl) (.cons (rv_tmp rfl) .nil)) _ [] hR3 rfl
       case hp => refine ⟨?_, rfl⟩; rw [hst]; clear hst hke hks hwf hx; simp_all [kstep, tupOf] <;> first | rfl | (rw [if_neg (by omega)]; exact ⟨rfl, rfl⟩)
       case hS => (repeat (first|exact zR _|(apply zP;focus (repeat (first|exact zH _|apply zT)))|apply zD|exact zA _ _))
     ·try simp only [dT, dF, nT, nF, tF, fT] at hc32
      refine cj_seq (fun K20 hK20 => ?_)
      refine cj_region ?_
      refine rv0 rfl rfl rfl (y_eql rfl rfl) ?_
      refine rv0 rfl rfl rfl (y_assign rfl) ?_
      refine rj_nil ?_
      refine hK20 _ _ _ ?_
      refine cj_cond rfl (fun hc37 => ?_) (fun hc37 => ?_)
      ·try simp only [dT, dF, nT, nF, tF, fT] at hc37
       refine cj_seq (fun K22 hK22 => ?_)
       refine cj_seq (fun K23 hK23 => ?_)
       refine cj_region ?_
       refine rv0 rfl rfl rfl (y_move rfl) ?_
       refine rv0 rfl rfl rfl (y_callv rfl Try.call51 rfl (kind1_q ks vl hfr 2 b9) (by (repeat (first|exact zN _|(apply zS;focus (repeat (first|exact zH _|apply zT))))))) ?_
       refine rv0 rfl rfl rfl (y_move rfl) ?_
       refine rj_part 41 rfl (fun hg41 => ?_) (fun hg41 => ?_)
       ·try simp only [dT, dF, nT, nF, tF, fT] at hg41
        refine rj_val (wn1 rfl rfl rfl rfl) rfl rfl (y_move rfl) ?_
        refine rj_val (wn1 rfl rfl rfl rfl) rfl rfl (y_callv rfl Try.call51 rfl (kind1_q ks vl hfr 1 b9) (by (repeat (first|exact zN _|(apply zS;focus (repeat (first|exact zH _|apply zT))))))) ?_
        refine rv0 rfl rfl rfl (y_pick_t rfl rfl) ?_
        refine rj_nil ?_
        refine hK23 _ _ _ ?_
        refine cj_env (eL 44 rfl eN) ?_
        refine cj_cond rfl (fun hc44 => ?_) (fun hc44 => ?_)
        ·try simp only [dT, dF, nT, nF, tF, fT] at hc44
         refine cj_seq (fun K25 hK25 => ?_)
         refine cj_region ?_
         refine rv0 rfl rfl rfl (y_assign rfl) ?_
         refine rv0 rfl rfl rfl (y_assign rfl) ?_
         refine rj_nil ?_
         refine hK25 _ _ _ ?_
         refine cj_ret ?_
         refine hret _ _ _ ?_
         apply ej_ret Try.results34 (.cons (rv_tmp rfl) (.cons (rv_tmp rfl) .nil)) _ [] hR3 rfl
         case hp => refine ⟨?_, rfl⟩; rw [hst]; clear hst hke hks hwf hx; simp_all [kstep, tupOf] <;> first | rfl | (rw [if_neg (by omega)]; exact ⟨rfl, rfl⟩)
         case hS => (repeat (first|exact zR _|(apply zP;focus (repeat (first|exact zH _|apply zT)))|apply zD|exact zA _ _))
        ·try simp only [dT, dF, nT, nF, tF, fT] at hc44
         refine cj_skip ?_
         refine hK22 _ _ _ ?_
         refine cj_seq (fun K26 hK26 => ?_)
         refine cj_region ?_
         refine rv0 rfl rfl rfl (y_assign rfl) ?_
         refine rv0 rfl rfl rfl (y_assign rfl) ?_
         refine rj_nil ?_
         refine hK26 _ _ _ ?_
         refine cj_ret ?_
         refine hret _ _ _ ?_
         apply ej_ret Try.results34 (.cons (rv_tmp rfl) (.cons (rv_tmp rfl) .nil)) _ [] hR3 rfl
         case hp => refine ⟨?_, rfl⟩; rw [hst]; clear hst hke hks hwf hx; simp_all [kstep, tupOf] <;> first | rfl | (rw [if_neg (by omega)]; exact ⟨rfl, rfl⟩)
         case hS => (repeat (first|exact zR _|(apply zP;focus (repeat (first|exact zH _|apply zT)))|apply zD|exact zA _ _))
       ·try simp only [dT, dF, nT, nF, tF, fT] at hg41
        refine rj_skip (wn2 rfl rfl rfl rfl rfl) rfl rfl ?_
        refine rj_skip (wn2 rfl rfl rfl rfl rfl) rfl rfl ?_
        refine rv0 rfl rfl rfl (y_pick_f rfl rfl) ?_
        refine rj_nil ?_
        refine hK23 _ _ _ ?_
        refine cj_env (eL 44 rfl eN) ?_
        refine cj_cond_f rfl ?_
        refine cj_skip ?_
        refine hK22 _ _ _ ?_
        refine cj_seq (fun K27 hK27 => ?_)
        refine cj_region ?_
        refine rv0 rfl rfl rfl (y_assign rfl) ?_
        refine rv0 rfl rfl rfl (y_assign rfl) ?_
        refine rj_nil ?_
        refine hK27 _ _ _ ?_
        refine cj_ret ?_
        refine hret _ _ _ ?_
        apply ej_ret Try.results34 (.cons (rv_tmp rfl) (.cons (rv_tmp rfl) .nil)) _ [] hR3 rfl
        case hp => refine ⟨?_, rfl⟩; rw [hst]; clear hst hke hks hwf hx; simp_all [kstep, tupOf] <;> first | rfl | (rw [if_neg (by omega)]; exact ⟨rfl, rfl⟩)
        case hS => (repeat (first|exact zR _|(apply zP;focus (repeat (first|exact zH _|apply zT)))|apply zD|exact zA _ _))
      ·try simp only [dT, dF, nT, nF, tF, fT] at hc37
       refine cj_seq (fun K28 hK28 => ?_)
       refine cj_region ?_
       refine rv0 rfl rfl rfl (y_eql rfl rfl) ?_
       refine rv0 rfl rfl rfl (y_assign rfl) ?_
       refine rj_nil ?_
       refine hK28 _ _ _ ?_
       refine cj_env (eL 1 rfl (eL 2 rfl (eL 3 rfl (eL 9 rfl (eL 11 rfl (eL 31 rfl (eL 45 rfl eN))))))) ?_
       refine cj_cond rfl (fun hc45 => ?_) (fun hc45 => ?_)
       ·try simp only [dT, dF, nT, nF, tF, fT] at hc45
        refine cj_seq (fun K30 hK30 => ?_)
        refine cj_seq (fun K31 hK31 => ?_)
        refine cj_region ?_
        refine rv0 rfl rfl rfl (y_move rfl) ?_
        refine rv0 rfl rfl rfl (y_callv rfl Try.call51 rfl (kind1_q ks vl hfr 1 b9) (by (repeat (first|exact zN _|(apply zS;focus (repeat (first|exact zH _|apply zT))))))) ?_
        refine rj_nil ?_
        refine hK31 _ _ _ ?_
        refine cj_env (eL 48 rfl eN) ?_
        refine cj_cond rfl (fun hc48 => ?_) (fun hc48 => ?_)
        ·try simp only [dT, dF, nT, nF, tF, fT] at hc48
         refine cj_seq (fun K33 hK33 => ?_)
         refine cj_region ?_
         refine rv0 rfl rfl rfl (y_assign rfl) ?_
         refine rv0 rfl rfl rfl (y_assign rfl) ?_
         refine rj_nil ?_
         refine hK33 _ _ _ ?_
         refine cj_ret ?_
         refine hret _ _ _ ?_
         apply ej_ret Try.results34 (.cons (rv_tmp rfl) (.cons (rv_tmp rfl) .nil)) _ [] hR3 rfl
         case hp => refine ⟨?_, rfl⟩; rw [hst]; clear hst hke hks hwf hx; simp_all [kstep, tupOf] <;> first | rfl | (rw [if_neg (by omega)]; exact ⟨rfl, rfl⟩)
         case hS => (repeat (first|exact zR _|(apply zP;focus (repeat (first|exact zH _|apply zT)))|apply zD|exact zA _ _))
        ·try simp only [dT, dF, nT, nF, tF, fT] at hc48
         refine cj_skip ?_
         refine hK30 _ _ _ ?_
         refine cj_seq (fun K34 hK34 => ?_)
         refine cj_region ?_
         refine rv0 rfl rfl rfl (y_assign rfl) ?_
         refine rv0 rfl rfl rfl (y_assign rfl) ?_
         refine rj_nil ?_
         refine hK34 _ _ _ ?_
         refine cj_ret ?_
         refine hret _ _ _ ?_
         apply ej_ret Try.results34 (.cons (rv_tmp rfl) (.cons (rv_tmp rfl) .nil)) _ [] hR3 rfl
         case hp => refine ⟨?_, rfl⟩; rw [hst]; clear hst hke hks hwf hx; simp_all [kstep, tupOf] <;> first | rfl | (rw [if_neg (by omega)]; exact ⟨rfl, rfl⟩)
         case hS => (repeat (first|exact zR _|(apply zP;focus (repeat (first|exact zH _|apply zT)))|apply zD|exact zA _ _))
       ·try simp only [dT, dF, nT, nF, tF, fT] at hc45
        refine cj_seq (fun K35 hK35 => ?_)
        refine cj_region ?_
        refine rv0 rfl rfl rfl (y_eql rfl rfl) ?_
        refine rv0 rfl rfl rfl (y_assign rfl) ?_
        refine rj_nil ?_
        refine hK35 _ _ _ ?_
        refine cj_env (eL 1 rfl (eL 2 rfl (eL 3 rfl (eL 9 rfl (eL 11 rfl (eL 49 rfl eN)))))) ?_
        refine cj_cond rfl (fun hc49 => ?_) (fun hc49 => ?_)
        ·try simp only [dT, dF, nT, nF, tF, fT] at hc49
         refine cj_seq (fun K37 hK37 => ?_)
         refine cj_seq (fun K38 hK38 => ?_)
         refine cj_region ?_
         refine rv0 rfl rfl rfl (y_move rfl) ?_
         refine rv0 rfl rfl rfl (y_not rfl) ?_
         refine rv0 rfl rfl rfl (y_move rfl) ?_
         refine rj_part 53 rfl (fun hg53 => ?_) (fun hg53 => ?_)
         ·try simp only [dT, dF, nT, nF, tF, fT] at hg53
          refine rj_skip (wn2 rfl rfl rfl rfl rfl) rfl rfl ?_
          refine rj_skip (wn2 rfl rfl rfl rfl rfl) rfl rfl ?_
          refine rj_skip (wn2 rfl rfl rfl rfl rfl) rfl rfl ?_
          refine rj_skip (wn2 rfl rfl rfl rfl rfl) rfl rfl ?_
          refine rj_skip (wn3 rfl rfl rfl rfl) rfl rfl ?_
          refine rj_skip (wn3 rfl rfl rfl rfl) rfl rfl ?_
          refine rj_skip (wn2 rfl rfl rfl rfl rfl) rfl rfl ?_
          refine rv0 rfl rfl rfl (y_pick_t rfl rfl) ?_
          refine rj_nil ?_
          refine hK38 _ _ _ ?_
          refine cj_env (eL 3 rfl (eL 9 rfl (eL 61 rfl eN))) ?_
          refine cj_cond_t rfl ?_
          refine cj_seq (fun K39 hK39 => ?_)
          refine cj_region ?_
          refine rv0 rfl rfl rfl (y_assign rfl) ?_
          refine rv0 rfl rfl rfl (y_assign rfl) ?_
          refine rj_nil ?_
          refine hK39 _ _ _ ?_
          refine cj_env (eL 6 rfl (eL 7 rfl eN)) ?_
          refine cj_ret ?_
          refine hret _ _ _ ?_
          apply ej_ret Try.results34 (.cons (rv_tmp rfl) (.cons (rv_tmp rfl) .nil)) _ [] hR3 rfl
          case hp => refine ⟨?_, rfl⟩; rw [hst]; clear hst hke hks hwf hx; simp_all [kstep, tupOf] <;> first | rfl | (rw [if_neg (by omega)]; exact ⟨rfl, rfl⟩)
          case hS => (repeat (first|exact zR _|(apply zP;focus (repeat (first|exact zH _|apply zT)))|apply zD|exact zA _ _))
         ·try simp only [dT, dF, nT, nF, tF, fT] at hg53
          refine rj_val (wn1 rfl rfl rfl rfl) rfl rfl (y_fieldAddr (k := 0) Try.underlying29 rfl (n := 1) (by decide) Try.sizeOf9 rfl) ?_
          first | refine rj_val (wn1 rfl rfl rfl rfl) rfl rfl (y_load ⟨Try.isAgg9, Try.sizeOf9⟩ rfl (by (repeat (first|exact zH _|apply zT));done) rfl) ?_ | refine rj_val (wn1 rfl rfl rfl rfl) rfl rfl (y_load_slc ⟨Try.isAgg9, Try.sizeOf9⟩ rfl (by (repeat (first|exact zH _|apply zT));done) rfl) ?_
          refine rj_val (wn1 rfl rfl rfl rfl) rfl rfl (y_seql rfl rfl) ?_
          refine rj_val (wn1 rfl rfl rfl rfl) rfl rfl (y_move rfl) ?_
          refine rj_part 57 rfl (fun hg57 => ?_) (fun hg57 => ?_)
          ·try simp only [dT, dF, nT, nF, tF, fT] at hg57
           refine rj_val (wn1 rfl rfl rfl rfl) rfl rfl (y_move rfl) ?_
           refine rj_val (wn1 rfl rfl rfl rfl) rfl rfl (y_callv rfl Try.call51 rfl (kind1_q ks vl hfr 2 b9) (by (repeat (first|exact zN _|(apply zS;focus (repeat (first|exact zH _|apply zT))))))) ?_
           refine rj_val (wn1 rfl rfl rfl rfl) rfl rfl (y_pick_t rfl rfl) ?_
           refine rv0 rfl rfl rfl (y_pick_f rfl rfl) ?_
           refine rj_nil ?_
           refine hK38 _ _ _ ?_
           refine cj_env (eL 3 rfl (eL 9 rfl (eL 61 rfl eN))) ?_
           refine cj_cond rfl (fun hc61 => ?_) (fun hc61 => ?_)
           ·try simp only [dT, dF, nT, nF, tF, fT] at hc61
            refine cj_seq (fun K41 hK41 => ?_)
            refine cj_region ?_
            refine rv0 rfl rfl rfl (y_assign rfl) ?_
            refine rv0 rfl rfl rfl (y_assign rfl) ?_
            refine rj_nil ?_
            refine hK41 _ _ _ ?_
            refine cj_env (eL 6 rfl (eL 7 rfl eN)) ?_
            refine cj_ret ?_
            refine hret _ _ _ ?_
            apply ej_ret Try.results34 (.cons (rv_tmp rfl) (.cons (rv_tmp rfl) .nil)) _ [] hR3 rfl
            case hp => refine ⟨?_, rfl⟩; rw [hst]; clear hst hke hks hwf hx; simp_all [kstep, tupOf] <;> first | rfl | (rw [if_neg (by omega)]; exact ⟨rfl, rfl⟩)
            case hS => (repeat (first|exact zR _|(apply zP;focus (repeat (first|exact zH _|apply zT)))|apply zD|exact zA _ _))
           ·try simp only [dT, dF, nT, nF, tF, fT] at hc61
            refine cj_skip ?_
            refine hK37 _ _ _ ?_
            refine cj_seq (fun K42 hK42 => ?_)
            refine cj_seq (fun K43 hK43 => ?_)
            refine cj_region ?_
            refine rv0 rfl rfl rfl (y_fieldAddr (k := 0) Try.underlying29 rfl (n := 1) (by decide) Try.sizeOf9 rfl) ?_
            first | refine rv0 rfl rfl rfl (y_load ⟨Try.isAgg9, Try.sizeOf9⟩ rfl (by (repeat (first|exact zH _|apply zT));done) rfl) ?_ | refine rv0 rfl rfl rfl (y_load_slc ⟨Try.isAgg9, Try.sizeOf9⟩ rfl (by (repeat (first|exact zH _|apply zT));done) rfl) ?_
            refine rv0 rfl rfl rfl (y_seql rfl rfl) ?_
            refine rv0 rfl rfl rfl (y_move rfl) ?_
            refine rj_part 65 rfl (fun hg65 => ?_) (fun hg65 => ?_)
            ·try simp only [dT, dF, nT, nF, tF, fT] at hg65
             refine rj_skip (wn2 rfl rfl rfl rfl rfl) rfl rfl ?_
             refine rj_skip (wn2 rfl rfl rfl rfl rfl) rfl rfl ?_
             refine rj_skip (wn2 rfl rfl rfl rfl rfl) rfl rfl ?_
             refine rv0 rfl rfl rfl (y_pick_t rfl rfl) ?_
             refine rj_nil ?_
             refine hK43 _ _ _ ?_
             refine cj_env (eL 9 rfl (eL 69 rfl eN)) ?_
             refine cj_cond_t rfl ?_
             refine cj_seq (fun K44 hK44 => ?_)
             refine cj_region ?_
             have hop : op = .min ∨ op = .max := by first | exact .inl (dmin.1 (by simpa using hg65)) | exact .inr (dmax.1 (by simpa using hc69))
             have hkl : ks.length = 1 := by have h1 := kindsX_len (cols := cols) (may := (may && decide (¬ fam op = 5))) (l := kids) (by rw [hke]; simpa using hc28); rw [hke] at h1; simp only at h1; rw [h1, hwf.inv.1]; rcases hop with rfl | rfl <;> rfl
             obtain ⟨k0, rfl⟩ := List.length_eq_one_iff.1 hkl
             obtain ⟨bk, ok, ck, cs0, rfl, rfl, hcl0, hcell0⟩ := hfr.at (i := 0) (x := k0) rfl
             first | refine rv0 rfl rfl rfl (y_load ⟨Try.isAgg88, Try.sizeOf88⟩ rfl (by (repeat (first|exact zH _|apply zT));done) rfl) ?_ | refine rv0 rfl rfl rfl (y_load_slc ⟨Try.isAgg88, Try.sizeOf88⟩ rfl (by (repeat (first|exact zH _|apply zT));done) rfl) ?_
             first | refine rv0 rfl rfl rfl (y_indexAddr Try.underlying88 Try.sizeOf3 rfl rfl (by (first | omega | (dsimp only; omega) | (simp; done) | (simp; omega)))) ?_ | refine rv0 rfl rfl rfl (y_index_slc Try.underlying88 Try.sizeOf3 rfl rfl (by (repeat (first|exact zH _|apply zT));done) (by (first | omega | (dsimp only; omega) | (simp; done) | (simp; omega)))) ?_
             refine rv0 rfl rfl rfl ((y_load_ro ⟨Try.isAgg3, Try.sizeOf3⟩ rfl (hcell0 0 (.int .i64 k0) rfl))) ?_
             refine rv0 rfl rfl rfl (y_assign rfl) ?_
             refine rv0 rfl rfl rfl (y_assign rfl) ?_
             refine rj_nil ?_
             refine hK44 _ _ _ ?_
             refine cj_env (eL 6 rfl (eL 7 rfl eN)) ?_
             refine cj_ret ?_
             refine hret _ _ _ ?_
             apply ej_ret Try.results34 (.cons (rv_tmp rfl) (.cons (rv_tmp rfl) .nil)) _ [] hR3 rfl
             case hp => refine ⟨?_, rfl⟩; rw [hst]; clear hst hke hks hwf hx; simp_all [kstep, tupOf] <;> first | rfl | (rw [if_neg (by omega)]; exact ⟨rfl, rfl⟩)
             case hS => (repeat (first|exact zR _|(apply zP;focus (repeat (first|exact zH _|apply zT)))|apply zD|exact zA _ _))
            ·try simp only [dT, dF, nT, nF, tF, fT] at hg65
             refine rj_val (wn1 rfl rfl rfl rfl) rfl rfl (y_fieldAddr (k := 0) Try.underlying29 rfl (n := 1) (by decide) Try.sizeOf9 rfl) ?_
             first | refine rj_val (wn1 rfl rfl rfl rfl) rfl rfl (y_load ⟨Try.isAgg9, Try.sizeOf9⟩ rfl (by (repeat (first|exact zH _|apply zT));done) rfl) ?_ | refine rj_val (wn1 rfl rfl rfl rfl) rfl rfl (y_load_slc ⟨Try.isAgg9, Try.sizeOf9⟩ rfl (by (repeat (first|exact zH _|apply zT));done) rfl) ?_
             refine rj_val (wn1 rfl rfl rfl rfl) rfl rfl (y_seql rfl rfl) ?_
             refine rv0 rfl rfl rfl (y_pick_f rfl rfl) ?_
             refine rj_nil ?_
             refine hK43 _ _ _ ?_
             refine cj_env (eL 9 rfl (eL 69 rfl eN)) ?_
             refine cj_cond rfl (fun hc69 => ?_) (fun hc69 => ?_)
             ·try simp only [dT, dF, nT, nF, tF, fT] at hc69
              refine cj_seq (fun K46 hK46 => ?_)
              refine cj_region ?_
              have hop : op = .min ∨ op = .max := by first | exact .inl (dmin.1 (by simpa using hg65)) | exact .inr (dmax.1 (by simpa using hc69))
              have hkl : ks.length = 1 := by have h1 := kindsX_len (cols := cols) (may := (may && decide (¬ fam op = 5))) (l := kids) (by rw [hke]; simpa using hc28); rw [hke] at h1; simp only at h1; rw [h1, hwf.inv.1]; rcases hop with rfl | rfl <;> rfl
              obtain ⟨k0, rfl⟩ := List.length_eq_one_iff.1 hkl
              obtain ⟨bk, ok, ck, cs0, rfl, rfl, hcl0, hcell0⟩ := hfr.at (i := 0) (x := k0) rfl
              first | refine rv0 rfl rfl rfl (y_load ⟨Try.isAgg88, Try.sizeOf88⟩ rfl (by (repeat (first|exact zH _|apply zT));done) rfl) ?_ | refine rv0 rfl rfl rfl (y_load_slc ⟨Try.isAgg88, Try.sizeOf88⟩ rfl (by (repeat (first|exact zH _|apply zT));done) rfl) ?_
              first | refine rv0 rfl rfl rfl (y_indexAddr Try.underlying88 Try.sizeOf3 rfl rfl (by (first | omega | (dsimp only; omega) | (simp; done) | (simp; omega)))) ?_ | refine rv0 rfl rfl rfl (y_index_slc Try.underlying88 Try.sizeOf3 rfl rfl (by (repeat (first|exact zH _|apply zT));done) (by (first | omega | (dsimp only; omega) | (simp; done) | (simp; omega)))) ?_
              refine rv0 rfl rfl rfl ((y_load_ro ⟨Try.isAgg3, Try.sizeOf3⟩ rfl (hcell0 0 (.int .i64 k0) rfl))) ?_
              refine rv0 rfl rfl rfl (y_assign rfl) ?_
              refine rv0 rfl rfl rfl (y_assign rfl) ?_
              refine rj_nil ?_
              refine hK46 _ _ _ ?_
              refine cj_env (eL 6 rfl (eL 7 rfl eN)) ?_
              refine cj_ret ?_
              refine hret _ _ _ ?_
              apply ej_ret Try.results34 (.cons (rv_tmp rfl) (.cons (rv_tmp rfl) .nil)) _ [] hR3 rfl
              case hp => refine ⟨?_, rfl⟩; rw [hst]; clear hst hke hks hwf hx; simp_all [kstep, tupOf] <;> first | rfl | (rw [if_neg (by omega)]; exact ⟨rfl, rfl⟩)
              case hS => (repeat (first|exact zR _|(apply zP;focus (repeat (first|exact zH _|apply zT)))|apply zD|exact zA _ _))
             ·try simp only [dT, dF, nT, nF, tF, fT] at hc69
              refine cj_skip ?_
              refine hK42 _ _ _ ?_
              refine cj_seq (fun K47 hK47 => ?_)
              refine cj_region ?_
              refine rv0 rfl rfl rfl (y_assign rfl) ?_
              refine rv0 rfl rfl rfl (y_assign rfl) ?_
              refine rj_nil ?_
              refine hK47 _ _ _ ?_
              refine cj_ret ?_
              refine hret _ _ _ ?_
              apply ej_ret Try.results34 (.cons (rv_tmp rfl) (.cons (rv_tmp rfl) .nil)) _ [] hR3 rfl
              case hp => refine ⟨?_, rfl⟩; rw [hst]; clear hst hke hks hwf hx; simp_all [kstep, tupOf] <;> first | rfl | (rw [if_neg (by omega)]; exact ⟨rfl, rfl⟩)
              case hS => (repeat (first|exact zR _|(apply zP;focus (repeat (first|exact zH _|apply zT)))|apply zD|exact zA _ _))
          ·try simp only [dT, dF, nT, nF, tF, fT] at hg57
           refine rj_skip (wn2 rfl rfl rfl rfl rfl) rfl rfl ?_
           refine rj_skip (wn2 rfl rfl rfl rfl rfl) rfl rfl ?_
           refine rj_val (wn1 rfl rfl rfl rfl) rfl rfl (y_pick_f rfl rfl) ?_
           refine rv0 rfl rfl rfl (y_pick_f rfl rfl) ?_
           refine rj_nil ?_
           refine hK38 _ _ _ ?_
           refine cj_env (eL 3 rfl (eL 9 rfl (eL 61 rfl eN))) ?_
           refine cj_cond_f rfl ?_
           refine cj_skip ?_
           refine hK37 _ _ _ ?_
           refine cj_seq (fun K48 hK48 => ?_)
           refine cj_seq (fun K49 hK49 => ?_)
           refine cj_region ?_
           refine rv0 rfl rfl rfl (y_fieldAddr (k := 0) Try.underlying29 rfl (n := 1) (by decide) Try.sizeOf9 rfl) ?_
           first | refine rv0 rfl rfl rfl (y_load ⟨Try.isAgg9, Try.sizeOf9⟩ rfl (by (repeat (first|exact zH _|apply zT));done) rfl) ?_ | refine rv0 rfl rfl rfl (y_load_slc ⟨Try.isAgg9, Try.sizeOf9⟩ rfl (by (repeat (first|exact zH _|apply zT));done) rfl) ?_
           refine rv0 rfl rfl rfl (y_seql rfl rfl) ?_
           refine rv0 rfl rfl rfl (y_move rfl) ?_
           refine rj_part 65 rfl (fun hg65 => ?_) (fun hg65 => ?_)
           ·try simp only [dT, dF, nT, nF, tF, fT] at hg65
            refine rj_skip (wn2 rfl rfl rfl rfl rfl) rfl rfl ?_
            refine rj_skip (wn2 rfl rfl rfl rfl rfl) rfl rfl ?_
            refine rj_skip (wn2 rfl rfl rfl rfl rfl) rfl rfl ?_
            refine rv0 rfl rfl rfl (y_pick_t rfl rfl) ?_
            refine rj_nil ?_
            refine hK49 _ _ _ ?_
            refine cj_env (eL 9 rfl (eL 69 rfl eN)) ?_
            refine cj_cond_t rfl ?_
            refine cj_seq (fun K50 hK50 => ?_)
            refine cj_region ?_
            have hop : op = .min ∨ op = .max := by first | exact .inl (dmin.1 (by simpa using hg65)) | exact .inr (dmax.1 (by simpa using hc69))
            have hkl : ks.length = 1 := by have h1 := kindsX_len (cols := cols) (may := (may && decide (¬ fam op = 5))) (l := kids) (by rw [hke]; simpa using hc28); rw [hke] at h1; simp only at h1; rw [h1, hwf.inv.1]; rcases hop with rfl | rfl <;> rfl
            obtain ⟨k0, rfl⟩ := List.length_eq_one_iff.1 hkl
            obtain ⟨bk, ok, ck, cs0, rfl, rfl, hcl0, hcell0⟩ := hfr.at (i := 0) (x := k0) rfl
            first | refine rv0 rfl rfl rfl (y_load ⟨Try.isAgg88, Try.sizeOf88⟩ rfl (by (repeat (first|exact zH _|apply zT));done) rfl) ?_ | refine rv0 rfl rfl rfl (y_load_slc ⟨Try.isAgg88, Try.sizeOf88⟩ rfl (by (repeat (first|exact zH _|apply zT));done) rfl) ?_
            first | refine rv0 rfl rfl rfl (y_indexAddr Try.underlying88 Try.sizeOf3 rfl rfl (by (first | omega | (dsimp only; omega) | (simp; done) | (simp; omega)))) ?_ | refine rv0 rfl rfl rfl (y_index_slc Try.underlying88 Try.sizeOf3 rfl rfl (by (repeat (first|exact zH _|apply zT));done) (by (first | omega | (dsimp only; omega) | (simp; done) | (simp; omega)))) ?_
            refine rv0 rfl rfl rfl ((y_load_ro ⟨Try.isAgg3, Try.sizeOf3⟩ rfl (hcell0 0 (.int .i64 k0) rfl))) ?_
            refine rv0 rfl rfl rfl (y_assign rfl) ?_
            refine rv0 rfl rfl rfl (y_assign rfl) ?_
            refine rj_nil ?_
            refine hK50 _ _ _ ?_
            refine cj_env (eL 6 rfl (eL 7 rfl eN)) ?_
            refine cj_ret ?_
            refine hret _ _ _ ?_
            apply ej_ret Try.results34 (.cons (rv_tmp rfl) (.cons (rv_tmp rfl) .nil)) _ [] hR3 rfl
            case hp => refine ⟨?_, rfl⟩; rw [hst]; clear hst hke hks hwf hx; simp_all [kstep, tupOf] <;> first | rfl | (rw [if_neg (by omega)]; exact ⟨rfl, rfl⟩)
            case hS => (repeat (first|exact zR _|(apply zP;focus (repeat (first|exact zH _|apply zT)))|apply zD|exact zA _ _))
           ·try simp only [dT, dF, nT, nF, tF, fT] at hg65
            refine rj_val (wn1 rfl rfl rfl rfl) rfl rfl (y_fieldAddr (k := 0) Try.underlying29 rfl (n := 1) (by decide) Try.sizeOf9 rfl) ?_
            first | refine rj_val (wn1 rfl rfl rfl rfl) rfl rfl (y_load ⟨Try.isAgg9, Try.sizeOf9⟩ rfl (by (repeat (first|exact zH _|apply zT));done) rfl) ?_ | refine rj_val (wn1 rfl rfl rfl rfl) rfl rfl (y_load_slc ⟨Try.isAgg9, Try.sizeOf9⟩ rfl (by (repeat (first|exact zH _|apply zT));done) rfl) ?_
            refine rj_val (wn1 rfl rfl rfl rfl) rfl rfl (y_seql rfl rfl) ?_
            refine rv0 rfl rfl rfl (y_pick_f rfl rfl) ?_
            refine rj_nil ?_
            refine hK49 _ _ _ ?_
            refine cj_env (eL 9 rfl (eL 69 rfl eN)) ?_
            refine cj_cond rfl (fun hc69 => ?_) (fun hc69 => ?_)
            ·try simp only [dT, dF, nT, nF, tF, fT] at hc69
             refine cj_seq (fun K52 hK52 => ?_)
             refine cj_region ?_
             have hop : op = .min ∨ op = .max := by first | exact .inl (dmin.1 (by simpa using hg65)) | exact .inr (dmax.1 (by simpa using hc69))
             have hkl : ks.length = 1 := by have h1 := kindsX_len (cols := cols) (may := (may && decide (¬ fam op = 5))) (l := kids) (by rw [hke]; simpa using hc28); rw [hke] at h1; simp only at h1; rw [h1, hwf.inv.1]; rcases hop with rfl | rfl <;> rfl
             obtain ⟨k0, rfl⟩ := List.length_eq_one_iff.1 hkl
             obtain ⟨bk, ok, ck, cs0, rfl, rfl, hcl0, hcell0⟩ := hfr.at (i := 0) (x := k0) rfl
             first | refine rv0 rfl rfl rfl (y_load ⟨Try.isAgg88, Try.sizeOf88⟩ rfl (by (repeat (first|exact zH _|apply zT));done) rfl) ?_ | refine rv0 rfl rfl rfl (y_load_slc ⟨Try.isAgg88, Try.sizeOf88⟩ rfl (by (repeat (first|exact zH _|apply zT));done) rfl) ?_
             first | refine rv0 rfl rfl rfl (y_indexAddr Try.underlying88 Try.sizeOf3 rfl rfl (by (first | omega | (dsimp only; omega) | (simp; done) | (simp; omega)))) ?_ | refine rv0 rfl rfl rfl (y_index_slc Try.underlying88 Try.sizeOf3 rfl rfl (by (repeat (first|exact zH _|apply zT));done) (by (first | omega | (dsimp only; omega) | (simp; done) | (simp; omega)))) ?_
             refine rv0 rfl rfl rfl ((y_load_ro ⟨Try.isAgg3, Try.sizeOf3⟩ rfl (hcell0 0 (.int .i64 k0) rfl))) ?_
             refine rv0 rfl rfl rfl (y_assign rfl) ?_
             refine rv0 rfl rfl rfl (y_assign rfl) ?_
             refine rj_nil ?_
             refine hK52 _ _ _ ?_
             refine cj_env (eL 6 rfl (eL 7 rfl eN)) ?_
             refine cj_ret ?_
             refine hret _ _ _ ?_
             apply ej_ret Try.results34 (.cons (rv_tmp rfl) (.cons (rv_tmp rfl) .nil)) _ [] hR3 rfl
             case hp => refine ⟨?_, rfl⟩; rw [hst]; clear hst hke hks hwf hx; simp_all [kstep, tupOf] <;> first | rfl | (rw [if_neg (by omega)]; exact ⟨rfl, rfl⟩)
             case hS => (repeat (first|exact zR _|(apply zP;focus (repeat (first|exact zH _|apply zT)))|apply zD|exact zA _ _))
            ·try simp only [dT, dF, nT, nF, tF, fT] at hc69
             refine cj_skip ?_
             refine hK48 _ _ _ ?_
             refine cj_seq (fun K53 hK53 => ?_)
             refine cj_region ?_
             refine rv0 rfl rfl rfl (y_assign rfl) ?_
             refine rv0 rfl rfl rfl (y_assign rfl) ?_
             refine rj_nil ?_
             refine hK53 _ _ _ ?_
             refine cj_ret ?_
             refine hret _ _ _ ?_
             apply ej_ret Try.results34 (.cons (rv_tmp rfl) (.cons (rv_tmp rfl) .nil)) _ [] hR3 rfl
             case hp => refine ⟨?_, rfl⟩; rw [hst]; clear hst hke hks hwf hx; simp_all [kstep, tupOf] <;> first | rfl | (rw [if_neg (by omega)]; exact ⟨rfl, rfl⟩)
             case hS => (repeat (first|exact zR _|(apply zP;focus (repeat (first|exact zH _|apply zT)))|apply zD|exact zA _ _))
        ·try simp only [dT, dF, nT, nF, tF, fT] at hc49
         refine cj_skip ?_
         refine hK9 _ _ _ ?_
         refine cj_env (eL 1 rfl (eL 3 rfl eN)) ?_
         refine cj_seq (fun K54 hK54 => ?_)
         refine cj_seq (fun K55 hK55 => ?_)
         refine cj_region ?_
         refine rv0 rfl rfl rfl (y_fieldAddr (k := 0) Try.underlying29 rfl (n := 1) (by decide) Try.sizeOf9 rfl) ?_
         first | refine rv0 rfl rfl rfl (y_load ⟨Try.isAgg9, Try.sizeOf9⟩ rfl (by (repeat (first|exact zH _|apply zT));done) rfl) ?_ | refine rv0 rfl rfl rfl (y_load_slc ⟨Try.isAgg9, Try.sizeOf9⟩ rfl (by (repeat (first|exact zH _|apply zT));done) rfl) ?_
         refine rj_nil ?_
         refine hK55 _ _ _ ?_
         refine cj_block ?_
         refine cj_seq (fun K56 hK56 => ?_)
         refine cj_region ?_
         refine rv0 rfl rfl rfl (y_seql rfl rfl) ?_
         refine rv0 rfl rfl rfl (y_assign rfl) ?_
         refine rj_nil ?_
         refine hK56 _ _ _ ?_
         refine cj_cond rfl (fun hc75 => ?_) (fun hc75 => ?_)
         ·try simp only [dT, dF, nT, nF, tF, fT] at hc75
          refine cj_seq (fun K58 hK58 => ?_)
          refine cj_region ?_
          refine rv0 rfl rfl rfl (y_move rfl) ?_
          refine rv0 rfl rfl rfl (y_fieldAddr (k := 4) Try.underlying29 rfl (n := 1) (by decide) Try.sizeOf9 rfl) ?_
          first | refine rv0 rfl rfl rfl (y_load ⟨Try.isAgg9, Try.sizeOf9⟩ rfl (by (repeat (first|exact zH _|apply zT));done) rfl) ?_ | refine rv0 rfl rfl rfl (y_load_slc ⟨Try.isAgg9, Try.sizeOf9⟩ rfl (by (repeat (first|exact zH _|apply zT));done) rfl) ?_
          refine rv0 rfl rfl rfl (y_call Try.call53 rfl (place_q cols vc hcols3 name) (by (repeat (first|exact zN _|(apply zS;focus (repeat (first|exact zH _|apply zT))))))) ?_
          refine rv0 rfl rfl rfl (y_assign rfl) ?_
          refine rj_nil ?_
          refine hK58 _ _ _ ?_
          refine cj_env (eL 1 rfl (eL 12 rfl eN)) ?_
          refine cj_seq (fun K59 hK59 => ?_)
          refine cj_seq (fun K60 hK60 => ?_)
          refine cj_region ?_
          refine rv0 rfl rfl rfl (y_move rfl) ?_
          refine rv0 rfl rfl rfl (y_lss rfl rfl) ?_
          refine rj_nil ?_
          refine hK60 _ _ _ ?_
          refine cj_cond rfl (fun hc82 => ?_) (fun hc82 => ?_)
          ·try simp only [dT, dF, nT, nF, tF, fT] at hc82
           refine cj_seq (fun K62 hK62 => ?_)
           refine cj_region ?_
           refine rv0 rfl rfl rfl (y_assign rfl) ?_
           refine rv0 rfl rfl rfl (y_assign rfl) ?_
           refine rj_nil ?_
           refine hK62 _ _ _ ?_
           refine cj_env (eL 6 rfl (eL 7 rfl eN)) ?_
           refine cj_ret ?_
           refine hret _ _ _ ?_
           apply ej_ret Try.results34 (.cons (rv_tmp rfl) (.cons (rv_tmp rfl) .nil)) _ [] hR3 rfl
           case hp => refine ⟨?_, rfl⟩; rw [hst]; clear hst hke hks hwf hx; simp_all [kstep, tupOf] <;> first | rfl | (rw [if_neg (by omega)]; exact ⟨rfl, rfl⟩)
           case hS => (repeat (first|exact zR _|(apply zP;focus (repeat (first|exact zH _|apply zT)))|apply zD|exact zA _ _))
          ·try simp only [dT, dF, nT, nF, tF, fT] at hc82
           refine cj_skip ?_
           refine hK59 _ _ _ ?_
           refine cj_seq (fun K63 hK63 => ?_)
           refine cj_region ?_
           obtain ⟨x31, hx31⟩ : ∃ x, cols[(placeC cols name).toNat]? = some x := by have h1 := idxI_ge (fun c : Cl => decide (c.name = name)) cols; rw [← placeC_idx] at h1; exact ⟨_, List.getElem?_eq_getElem (by (try simp at hc82); omega)⟩
           have hp31 : 0 ≤ placeC cols name := by (try simp at hc82); omega
           have hd31 : cols.getD (placeC cols name).toNat ⟨[], 0, 0⟩ = x31 := by rw [List.getD_eq_getElem?_getD, hx31]; rfl
           obtain ⟨bk, ok, ck, cs0, rfl, rfl, hcl0, hcell0⟩ := hcols3.at hx31
           have hl31 := (List.getElem?_eq_some_iff.1 hx31).1
           refine rv0 rfl rfl rfl (y_move rfl) ?_
           refine rv0 rfl rfl rfl (y_move rfl) ?_
           first | refine rv0 rfl rfl rfl (y_indexAddr Try.underlying35 Try.sizeOf66 rfl rfl (by (first | omega | (dsimp only; omega) | (simp; done) | (simp; omega)))) ?_ | refine rv0 rfl rfl rfl (y_index_slc Try.underlying35 Try.sizeOf66 rfl rfl (by (repeat (first|exact zH _|apply zT));done) (by (first | omega | (dsimp only; omega) | (simp; done) | (simp; omega)))) ?_
           refine rv0 rfl rfl rfl (y_fieldAddr (k := 1) Try.underlying66 rfl (n := 1) (by decide) Try.sizeOf3 rfl) ?_
           refine rv0 rfl rfl rfl ((y_load_ro ⟨Try.isAgg3, Try.sizeOf3⟩ rfl (hcell0 1 (.int .i64 x31.kind) rfl))) ?_
           refine rv0 rfl rfl rfl (y_assign rfl) ?_
           refine rv0 rfl rfl rfl (y_assign rfl) ?_
           refine rj_nil ?_
           refine hK63 _ _ _ ?_
           refine cj_env (eL 6 rfl (eL 7 rfl eN)) ?_
           refine cj_ret ?_
           refine hret _ _ _ ?_
           apply ej_ret Try.results34 (.cons (rv_tmp rfl) (.cons (rv_tmp rfl) .nil)) _ [] hR3 rfl
           case hp => refine ⟨?_, rfl⟩; rw [hst]; clear hst hke hks hwf hx; simp_all [kstep, tupOf] <;> first | rfl | (rw [if_neg (by omega)]; exact ⟨rfl, rfl⟩)
           case hS => (repeat (first|exact zR _|(apply zP;focus (repeat (first|exact zH _|apply zT)))|apply zD|exact zA _ _))
         ·try simp only [dT, dF, nT, nF, tF, fT] at hc75
          refine cj_seq (fun K64 hK64 => ?_)
          refine cj_region ?_
          refine rv0 rfl rfl rfl (y_seql rfl rfl) ?_
          refine rv0 rfl rfl rfl (y_assign rfl) ?_
          refine rj_nil ?_
          refine hK64 _ _ _ ?_
          refine cj_env (eL 3 rfl (eL 88 rfl eN)) ?_
          refine cj_cond rfl (fun hc88 => ?_) (fun hc88 => ?_)
          ·try simp only [dT, dF, nT, nF, tF, fT] at hc88
           refine cj_seq (fun K66 hK66 => ?_)
           refine cj_region ?_
           refine rv0 rfl rfl rfl (y_assign rfl) ?_
           refine rv0 rfl rfl rfl (y_assign rfl) ?_
           refine rj_nil ?_
           refine hK66 _ _ _ ?_
           refine cj_ret ?_
           refine hret _ _ _ ?_
           apply ej_ret Try.results34 (.cons (rv_tmp rfl) (.cons (rv_tmp rfl) .nil)) _ [] hR3 rfl
           case hp => refine ⟨?_, rfl⟩; rw [hst]; clear hst hke hks hwf hx; simp_all [kstep, tupOf] <;> first | rfl | (rw [if_neg (by omega)]; exact ⟨rfl, rfl⟩)
           case hS => (repeat (first|exact zR _|(apply zP;focus (repeat (first|exact zH _|apply zT)))|apply zD|exact zA _ _))
          ·try simp only [dT, dF, nT, nF, tF, fT] at hc88
           refine cj_skip ?_
           refine hK54 _ _ _ ?_
           refine cj_seq (fun K67 hK67 => ?_)
           refine cj_region ?_
           refine rv0 rfl rfl rfl (y_fieldAddr (k := 1) Try.underlying29 rfl (n := 3) (by decide) Try.sizeOf26 rfl) ?_
           refine rv0 rfl rfl rfl (y_fieldAddr (k := 0) Try.underlying26 rfl (n := 1) (by decide) Try.sizeOf3 rfl) ?_
           first | refine rv0 rfl rfl rfl (y_load ⟨Try.isAgg3, Try.sizeOf3⟩ rfl (by (repeat (first|exact zH _|apply zT));done) rfl) ?_ | refine rv0 rfl rfl rfl (y_load_slc ⟨Try.isAgg3, Try.sizeOf3⟩ rfl (by (repeat (first|exact zH _|apply zT));done) rfl) ?_
           refine rv0 rfl rfl rfl (y_assign rfl) ?_
           refine rv0 rfl rfl rfl (y_assign rfl) ?_
           refine rj_nil ?_
           refine hK67 _ _ _ ?_
           refine cj_env (eL 6 rfl (eL 7 rfl eN)) ?_
           refine cj_ret ?_
           refine hret _ _ _ ?_
           apply ej_ret Try.results34 (.cons (rv_tmp rfl) (.cons (rv_tmp rfl) .nil)) _ [] hR3 rfl
           case hp => refine ⟨?_, rfl⟩; rw [hst]; clear hst hke hks hwf hx; simp_all [kstep, tupOf] <;> first | rfl | (rw [if_neg (by omega)]; exact ⟨rfl, rfl⟩)
           case hS => (repeat (first|exact zR _|(apply zP;focus (repeat (first|exact zH _|apply zT)))|apply zD|exact zA _ _))
    ·try simp only [dT, dF, nT, nF, tF, fT] at hc32
     refine cj_region ?_
     refine rv0 rfl rfl rfl (y_eql rfl rfl) ?_
     refine rv0 rfl rfl rfl (y_assign rfl) ?_
     refine rj_nil ?_
     refine hK11 _ _ _ ?_
     refine cj_cond rfl (fun hc32 => ?_) (fun hc32 => ?_)
     ·try simp only [dT, dF, nT, nF, tF, fT] at hc32
      refine cj_seq (fun K69 hK69 => ?_)
      refine cj_seq (fun K70 hK70 => ?_)
      refine cj_region ?_
      refine rv0 rfl rfl rfl (y_move rfl) ?_
      refine rv0 rfl rfl rfl (y_callv rfl Try.call51 rfl (kind1_q ks vl hfr 2 b9) (by (repeat (first|exact zN _|(apply zS;focus (repeat (first|exact zH _|apply zT))))))) ?_
      refine rj_nil ?_
      refine hK70 _ _ _ ?_
      refine cj_env (eL 36 rfl eN) ?_
      refine cj_cond rfl (fun hc36 => ?_) (fun hc36 => ?_)
      ·try simp only [dT, dF, nT, nF, tF, fT] at hc36
       refine cj_seq (fun K72 hK72 => ?_)
       refine cj_region ?_
       refine rv0 rfl rfl rfl (y_assign rfl) ?_
       refine rv0 rfl rfl rfl (y_assign rfl) ?_
       refine rj_nil ?_
       refine hK72 _ _ _ ?_
       refine cj_ret ?_
       refine hret _ _ _ ?_
       apply ej_ret Try.results34 (.cons (rv_tmp rfl) (.cons (rv_tmp rfl) .nil)) _ [] hR3 rfl
       case hp => refine ⟨?_, rfl⟩; rw [hst]; clear hst hke hks hwf hx; simp_all [kstep, tupOf] <;> first | rfl | (rw [if_neg (by omega)]; exact ⟨rfl, rfl⟩)
       case hS => (repeat (first|exact zR _|(apply zP;focus (repeat (first|exact zH _|apply zT)))|apply zD|exact zA _ _))
      ·try simp only [dT, dF, nT, nF, tF, fT] at hc36
       refine cj_skip ?_
       refine hK69 _ _ _ ?_
       refine cj_seq (fun K73 hK73 => ?_)
       refine cj_region ?_
       refine rv0 rfl rfl rfl (y_assign rfl) ?_
       refine rv0 rfl rfl rfl (y_assign rfl) ?_
       refine rj_nil ?_
       refine hK73 _ _ _ ?_
       refine cj_ret ?_
       refine hret _ _ _ ?_
       apply ej_ret Try.results34 (.cons (rv_tmp rfl) (.cons (rv_tmp rfl) .nil)) _ [] hR3 rfl
       case hp => refine ⟨?_, rfl⟩; rw [hst]; clear hst hke hks hwf hx; simp_all [kstep, tupOf] <;> first | rfl | (rw [if_neg (by omega)]; exact ⟨rfl, rfl⟩)
       case hS => (repeat (first|exact zR _|(apply zP;focus (repeat (first|exact zH _|apply zT)))|apply zD|exact zA _ _))
     ·try simp only [dT, dF, nT, nF, tF, fT] at hc32
      refine cj_seq (fun K74 hK74 => ?_)
      refine cj_region ?_
      refine rv0 rfl rfl rfl (y_eql rfl rfl) ?_
      refine rv0 rfl rfl rfl (y_assign rfl) ?_
      refine rj_nil ?_
      refine hK74 _ _ _ ?_
      refine cj_env (eL 1 rfl (eL 2 rfl (eL 3 rfl (eL 9 rfl (eL 11 rfl (eL 31 rfl (eL 37 rfl eN))))))) ?_
      refine cj_cond rfl (fun hc37 => ?_) (fun hc37 => ?_)
      ·try simp only [dT, dF, nT, nF, tF, fT] at hc37
       refine cj_seq (fun K76 hK76 => ?_)
       refine cj_seq (fun K77 hK77 => ?_)
       refine cj_region ?_
       refine rv0 rfl rfl rfl (y_move rfl) ?_
       refine rv0 rfl rfl rfl (y_callv rfl Try.call51 rfl (kind1_q ks vl hfr 2 b9) (by (repeat (first|exact zN _|(apply zS;focus (repeat (first|exact zH _|apply zT))))))) ?_
       refine rv0 rfl rfl rfl (y_move rfl) ?_
       refine rj_part 41 rfl (fun hg41 => ?_) (fun hg41 => ?_)
       ·try simp only [dT, dF, nT, nF, tF, fT] at hg41
        refine rj_val (wn1 rfl rfl rfl rfl) rfl rfl (y_move rfl) ?_
        refine rj_val (wn1 rfl rfl rfl rfl) rfl rfl (y_callv rfl Try.call51 rfl (kind1_q ks vl hfr 1 b9) (by (repeat (first|exact zN _|(apply zS;focus (repeat (first|exact zH _|apply zT))))))) ?_
        refine rv0 rfl rfl rfl (y_pick_t rfl rfl) ?_
        refine rj_nil ?_
        refine hK77 _ _ _ ?_
        refine cj_env (eL 44 rfl eN) ?_
        refine cj_cond rfl (fun hc44 => ?_) (fun hc44 => ?_)
        ·try simp only [dT, dF, nT, nF, tF, fT] at hc44
         refine cj_seq (fun K79 hK79 => ?_)
         refine cj_region ?_
         refine rv0 rfl rfl rfl (y_assign rfl) ?_
         refine rv0 rfl rfl rfl (y_assign rfl) ?_
         refine rj_nil ?_
         refine hK79 _ _ _ ?_
         refine cj_ret ?_
         refine hret _ _ _ ?_
         apply ej_ret Try.results34 (.cons (rv_tmp rfl) (.cons (rv_tmp rfl) .nil)) _ [] hR3 rfl
         case hp => refine ⟨?_, rfl⟩; rw [hst]; clear hst hke hks hwf hx; simp_all [kstep, tupOf] <;> first | rfl | (rw [if_neg (by omega)]; exact ⟨rfl, rfl⟩)
         case hS => (repeat (first|exact zR _|(apply zP;focus (repeat (first|exact zH _|apply zT)))|apply zD|exact zA _ _))
        ·try simp only [dT, dF, nT, nF, tF, fT] at hc44
         refine cj_skip ?_
         refine hK76 _ _ _ ?_
         refine cj_seq (fun K80 hK80 => ?_)
         refine cj_region ?_
         refine rv0 rfl rfl rfl (y_assign rfl) ?_
         refine rv0 rfl rfl rfl (y_assign rfl) ?_
         refine rj_nil ?_
         refine hK80 _ _ _ ?_
         refine cj_ret ?_
         refine hret _ _ _ ?_
         apply ej_ret Try.results34 (.cons (rv_tmp rfl) (.cons (rv_tmp rfl) .nil)) _ [] hR3 rfl
         case hp => refine ⟨?_, rfl⟩; rw [hst]; clear hst hke hks hwf hx; simp_all [kstep, tupOf] <;> first | rfl | (rw [if_neg (by omega)]; exact ⟨rfl, rfl⟩)
         case hS => (repeat (first|exact zR _|(apply zP;focus (repeat (first|exact zH _|apply zT)))|apply zD|exact zA _ _))
       ·try simp only [dT, dF, nT, nF, tF, fT] at hg41
        refine rj_skip (wn2 rfl rfl rfl rfl rfl) rfl rfl ?_
        refine rj_skip (wn2 rfl rfl rfl rfl rfl) rfl rfl ?_
        refine rv0 rfl rfl rfl (y_pick_f rfl rfl) ?_
        refine rj_nil ?_
        refine hK77 _ _ _ ?_
        refine cj_env (eL 44 rfl eN) ?_
        refine cj_cond_f rfl ?_
        refine cj_skip ?_
        refine hK76 _ _ _ ?_
        refine cj_seq (fun K81 hK81 => ?_)
        refine cj_region ?_
        refine rv0 rfl rfl rfl (y_assign rfl) ?_
        refine rv0 rfl rfl rfl (y_assign rfl) ?_
        refine rj_nil ?_
        refine hK81 _ _ _ ?_
        refine cj_ret ?_
        refine hret _ _ _ ?_
        apply ej_ret Try.results34 (.cons (rv_tmp rfl) (.cons (rv_tmp rfl) .nil)) _ [] hR3 rfl
        case hp => refine ⟨?_, rfl⟩; rw [hst]; clear hst hke hks hwf hx; simp_all [kstep, tupOf] <;> first | rfl | (rw [if_neg (by omega)]; exact ⟨rfl, rfl⟩)
        case hS => (repeat (first|exact zR _|(apply zP;focus (repeat (first|exact zH _|apply zT)))|apply zD|exact zA _ _))
      ·try simp only [dT, dF, nT, nF, tF, fT] at hc37
       refine cj_seq (fun K82 hK82 => ?_)
       refine cj_region ?_
       refine rv0 rfl rfl rfl (y_eql rfl rfl) ?_
       refine rv0 rfl rfl rfl (y_assign rfl) ?_
       refine rj_nil ?_
       refine hK82 _ _ _ ?_
       refine cj_cond rfl (fun hc45 => ?_) (fun hc45 => ?_)
       ·try simp only [dT, dF, nT, nF, tF, fT] at hc45
        refine cj_seq (fun K84 hK84 => ?_)
        refine cj_seq (fun K85 hK85 => ?_)
        refine cj_region ?_
        refine rv0 rfl rfl rfl (y_move rfl) ?_
        refine rv0 rfl rfl rfl (y_callv rfl Try.call51 rfl (kind1_q ks vl hfr 1 b9) (by (repeat (first|exact zN _|(apply zS;focus (repeat (first|exact zH _|apply zT))))))) ?_
        refine rj_nil ?_
        refine hK85 _ _ _ ?_
        refine cj_env (eL 48 rfl eN) ?_
        refine cj_cond rfl (fun hc48 => ?_) (fun hc48 => ?_)
        ·try simp only [dT, dF, nT, nF, tF, fT] at hc48
         refine cj_seq (fun K87 hK87 => ?_)
         refine cj_region ?_
         refine rv0 rfl rfl rfl (y_assign rfl) ?_
         refine rv0 rfl rfl rfl (y_assign rfl) ?_
         refine rj_nil ?_
         refine hK87 _ _ _ ?_
         refine cj_ret ?_
         refine hret _ _ _ ?_
         apply ej_ret Try.results34 (.cons (rv_tmp rfl) (.cons (rv_tmp rfl) .nil)) _ [] hR3 rfl
         case hp => refine ⟨?_, rfl⟩; rw [hst]; clear hst hke hks hwf hx; simp_all [kstep, tupOf] <;> first | rfl | (rw [if_neg (by omega)]; exact ⟨rfl, rfl⟩)
         case hS => (repeat (first|exact zR _|(apply zP;focus (repeat (first|exact zH _|apply zT)))|apply zD|exact zA _ _))
        ·try simp only [dT, dF, nT, nF, tF, fT] at hc48
         refine cj_skip ?_
         refine hK84 _ _ _ ?_
         refine cj_seq (fun K88 hK88 => ?_)
         refine cj_region ?_
         refine rv0 rfl rfl rfl (y_assign rfl) ?_
         refine rv0 rfl rfl rfl (y_assign rfl) ?_
         refine rj_nil ?_
         refine hK88 _ _ _ ?_
         refine cj_ret ?_
         refine hret _ _ _ ?_
         apply ej_ret Try.results34 (.cons (rv_tmp rfl) (.cons (rv_tmp rfl) .nil)) _ [] hR3 rfl
         case hp => refine ⟨?_, rfl⟩; rw [hst]; clear hst hke hks hwf hx; simp_all [kstep, tupOf] <;> first | rfl | (rw [if_neg (by omega)]; exact ⟨rfl, rfl⟩)
         case hS => (repeat (first|exact zR _|(apply zP;focus (repeat (first|exact zH _|apply zT)))|apply zD|exact zA _ _))
       ·try simp only [dT, dF, nT, nF, tF, fT] at hc45
        refine cj_seq (fun K89 hK89 => ?_)
        refine cj_region ?_
        refine rv0 rfl rfl rfl (y_eql rfl rfl) ?_
        refine rv0 rfl rfl rfl (y_assign rfl) ?_
        refine rj_nil ?_
        refine hK89 _ _ _ ?_
        refine cj_env (eL 1 rfl (eL 2 rfl (eL 3 rfl (eL 9 rfl (eL 11 rfl (eL 49 rfl eN)))))) ?_
        refine cj_cond rfl (fun hc49 => ?_) (fun hc49 => ?_)
        ·try simp only [dT, dF, nT, nF, tF, fT] at hc49
         refine cj_seq (fun K91 hK91 => ?_)
         refine cj_seq (fun K92 hK92 => ?_)
         refine cj_region ?_
         refine rv0 rfl rfl rfl (y_move rfl) ?_
         refine rv0 rfl rfl rfl (y_not rfl) ?_
         refine rv0 rfl rfl rfl (y_move rfl) ?_
         refine rj_part 53 rfl (fun hg53 => ?_) (fun hg53 => ?_)
         ·try simp only [dT, dF, nT, nF, tF, fT] at hg53
          refine rj_skip (wn2 rfl rfl rfl rfl rfl) rfl rfl ?_
          refine rj_skip (wn2 rfl rfl rfl rfl rfl) rfl rfl ?_
          refine rj_skip (wn2 rfl rfl rfl rfl rfl) rfl rfl ?_
          refine rj_skip (wn2 rfl rfl rfl rfl rfl) rfl rfl ?_
          refine rj_skip (wn3 rfl rfl rfl rfl) rfl rfl ?_
          refine rj_skip (wn3 rfl rfl rfl rfl) rfl rfl ?_
          refine rj_skip (wn2 rfl rfl rfl rfl rfl) rfl rfl ?_
          refine rv0 rfl rfl rfl (y_pick_t rfl rfl) ?_
          refine rj_nil ?_
          refine hK92 _ _ _ ?_
          refine cj_env (eL 3 rfl (eL 9 rfl (eL 61 rfl eN))) ?_
          refine cj_cond_t rfl ?_
          refine cj_seq (fun K93 hK93 => ?_)
          refine cj_region ?_
          refine rv0 rfl rfl rfl (y_assign rfl) ?_
          refine rv0 rfl rfl rfl (y_assign rfl) ?_
          refine rj_nil ?_
          refine hK93 _ _ _ ?_
          refine cj_env (eL 6 rfl (eL 7 rfl eN)) ?_
          refine cj_ret ?_
          refine hret _ _ _ ?_
          apply ej_ret Try.results34 (.cons (rv_tmp rfl) (.cons (rv_tmp rfl) .nil)) _ [] hR3 rfl
          case hp => refine ⟨?_, rfl⟩; rw [hst]; clear hst hke hks hwf hx; simp_all [kstep, tupOf] <;> first | rfl | (rw [if_neg (by omega)]; exact ⟨rfl, rfl⟩)
          case hS => (repeat (first|exact zR _|(apply zP;focus (repeat (first|exact zH _|apply zT)))|apply zD|exact zA _ _))
         ·try simp only [dT, dF, nT, nF, tF, fT] at hg53
          refine rj_val (wn1 rfl rfl rfl rfl) rfl rfl (y_fieldAddr (k := 0) Try.underlying29 rfl (n := 1) (by decide) Try.sizeOf9 rfl) ?_
          first | refine rj_val (wn1 rfl rfl rfl rfl) rfl rfl (y_load ⟨Try.isAgg9, Try.sizeOf9⟩ rfl (by (repeat (first|exact zH _|apply zT));done) rfl) ?_ | refine rj_val (wn1 rfl rfl rfl rfl) rfl rfl (y_load_slc ⟨Try.isAgg9, Try.sizeOf9⟩ rfl (by (repeat (first|exact zH _|apply zT));done) rfl) ?_
          refine rj_val (wn1 rfl rfl rfl rfl) rfl rfl (y_seql rfl rfl) ?_
          refine rj_val (wn1 rfl rfl rfl rfl) rfl rfl (y_move rfl) ?_
          refine rj_part 57 rfl (fun hg57 => ?_) (fun hg57 => ?_)
          ·try simp only [dT, dF, nT, nF, tF, fT] at hg57
           refine rj_val (wn1 rfl rfl rfl rfl) rfl rfl (y_move rfl) ?_
           refine rj_val (wn1 rfl rfl rfl rfl) rfl rfl (y_callv rfl Try.call51 rfl (kind1_q ks vl hfr 2 b9) (by (repeat (first|exact zN _|(apply zS;focus (repeat (first|exact zH _|apply zT))))))) ?_
           refine rj_val (wn1 rfl rfl rfl rfl) rfl rfl (y_pick_t rfl rfl) ?_
           refine rv0 rfl rfl rfl (y_pick_f rfl rfl) ?_
           refine rj_nil ?_
           refine hK92 _ _ _ ?_
           refine cj_env (eL 3 rfl (eL 9 rfl (eL 61 rfl eN))) ?_
           refine cj_cond rfl (fun hc61 => ?_) (fun hc61 => ?_)
           ·try simp only [dT, dF, nT, nF, tF, fT] at hc61
            refine cj_seq (fun K95 hK95 => ?_)
            refine cj_region ?_
            refine rv0 rfl rfl rfl (y_assign rfl) ?_
            refine rv0 rfl rfl rfl (y_assign rfl) ?_
            refine rj_nil ?_
            refine hK95 _ _ _ ?_
            refine cj_env (eL 6 rfl (eL 7 rfl eN)) ?_
            refine cj_ret ?_
            refine hret _ _ _ ?_
            apply ej_ret Try.results34 (.cons (rv_tmp rfl) (.cons (rv_tmp rfl) .nil)) _ [] hR3 rfl
            case hp => refine ⟨?_, rfl⟩; rw [hst]; clear hst hke hks hwf hx; simp_all [kstep, tupOf] <;> first | rfl | (rw [if_neg (by omega)]; exact ⟨rfl, rfl⟩)
            case hS => (repeat (first|exact zR _|(apply zP;focus (repeat (first|exact zH _|apply zT)))|apply zD|exact zA _ _))
           ·try simp only [dT, dF, nT, nF, tF, fT] at hc61
            refine cj_skip ?_
            refine hK91 _ _ _ ?_
            refine cj_seq (fun K96 hK96 => ?_)
            refine cj_seq (fun K97 hK97 => ?_)
            refine cj_region ?_
            refine rv0 rfl rfl rfl (y_fieldAddr (k := 0) Try.underlying29 rfl (n := 1) (by decide) Try.sizeOf9 rfl) ?_
            first | refine rv0 rfl rfl rfl (y_load ⟨Try.isAgg9, Try.sizeOf9⟩ rfl (by (repeat (first|exact zH _|apply zT));done) rfl) ?_ | refine rv0 rfl rfl rfl (y_load_slc ⟨Try.isAgg9, Try.sizeOf9⟩ rfl (by (repeat (first|exact zH _|apply zT));done) rfl) ?_
            refine rv0 rfl rfl rfl (y_seql rfl rfl) ?_
            refine rv0 rfl rfl rfl (y_move rfl) ?_
            refine rj_part 65 rfl (fun hg65 => ?_) (fun hg65 => ?_)
            ·try simp only [dT, dF, nT, nF, tF, fT] at hg65
             refine rj_skip (wn2 rfl rfl rfl rfl rfl) rfl rfl ?_
             refine rj_skip (wn2 rfl rfl rfl rfl rfl) rfl rfl ?_
             refine rj_skip (wn2 rfl rfl rfl rfl rfl) rfl rfl ?_
             refine rv0 rfl rfl rfl (y_pick_t rfl rfl) ?_
             refine rj_nil ?_
             refine hK97 _ _ _ ?_
             refine cj_env (eL 9 rfl (eL 69 rfl eN)) ?_
             refine cj_cond_t rfl ?_
             refine cj_seq (fun K98 hK98 => ?_)
             refine cj_region ?_
             have hop : op = .min ∨ op = .max := by first | exact .inl (dmin.1 (by simpa using hg65)) | exact .inr (dmax.1 (by simpa using hc69))
             have hkl : ks.length = 1 := by have h1 := kindsX_len (cols := cols) (may := (may && decide (¬ fam op = 5))) (l := kids) (by rw [hke]; simpa using hc28); rw [hke] at h1; simp only at h1; rw [h1, hwf.inv.1]; rcases hop with rfl | rfl <;> rfl
             obtain ⟨k0, rfl⟩ := List.length_eq_one_iff.1 hkl
             obtain ⟨bk, ok, ck, cs0, rfl, rfl, hcl0, hcell0⟩ := hfr.at (i := 0) (x := k0) rfl
             first | refine rv0 rfl rfl rfl (y_load ⟨Try.isAgg88, Try.sizeOf88⟩ rfl (by (repeat (first|exact zH _|apply zT));done) rfl) ?_ | refine rv0 rfl rfl rfl (y_load_slc ⟨Try.isAgg88, Try.sizeOf88⟩ rfl (by (repeat (first|exact zH _|apply zT));done) rfl) ?_
             first | refine rv0 rfl rfl rfl (y_indexAddr Try.underlying88 Try.sizeOf3 rfl rfl (by (first | omega | (dsimp only; omega) | (simp; done) | (simp; omega)))) ?_ | refine rv0 rfl rfl rfl (y_index_slc Try.underlying88 Try.sizeOf3 rfl rfl (by (repeat (first|exact zH _|apply zT));done) (by (first | omega | (dsimp only; omega) | (simp; done) | (simp; omega)))) ?_
             refine rv0 rfl rfl rfl ((y_load_ro ⟨Try.isAgg3, Try.sizeOf3⟩ rfl (hcell0 0 (.int .i64 k0) rfl))) ?_
             refine rv0 rfl rfl rfl (y_assign rfl) ?_
             refine rv0 rfl rfl rfl (y_assign rfl) ?_
             refine rj_nil ?_
             refine hK98 _ _ _ ?_
             refine cj_env (eL 6 rfl (eL 7 rfl eN)) ?_
             refine cj_ret ?_
             refine hret _ _ _ ?_
             apply ej_ret Try.results34 (.cons (rv_tmp rfl) (.cons (rv_tmp rfl) .nil)) _ [] hR3 rfl
             case hp => refine ⟨?_, rfl⟩; rw [hst]; clear hst hke hks hwf hx; simp_all [kstep, tupOf] <;> first | rfl | (rw [if_neg (by omega)]; exact ⟨rfl, rfl⟩)
             case hS => (repeat (first|exact zR _|(apply zP;focus (repeat (first|exact zH _|apply zT)))|apply zD|exact zA _ _))
            ·try simp only [dT, dF, nT, nF, tF, fT] at hg65
             refine rj_val (wn1 rfl rfl rfl rfl) rfl rfl (y_fieldAddr (k := 0) Try.underlying29 rfl (n := 1) (by decide) Try.sizeOf9 rfl) ?_
             first | refine rj_val (wn1 rfl rfl rfl rfl) rfl rfl (y_load ⟨Try.isAgg9, Try.sizeOf9⟩ rfl (by (repeat (first|exact zH _|apply zT));done) rfl) ?_ | refine rj_val (wn1 rfl rfl rfl rfl) rfl rfl (y_load_slc ⟨Try.isAgg9, Try.sizeOf9⟩ rfl (by (repeat (first|exact zH _|apply zT));done) rfl) ?_
             refine rj_val (wn1 rfl rfl rfl rfl) rfl rfl (y_seql rfl rfl) ?_
             refine rv0 rfl rfl rfl (y_pick_f rfl rfl) ?_
             refine rj_nil ?_
             refine hK97 _ _ _ ?_
             refine cj_env (eL 9 rfl (eL 69 rfl eN)) ?_
             refine cj_cond rfl (fun hc69 => ?_) (fun hc69 => ?_)
             ·try simp only [dT, dF, nT, nF, tF, fT] at hc69
              refine cj_seq (fun K100 hK100 => ?_)
              refine cj_region ?_
              have hop : op = .min ∨ op = .max := by first | exact .inl (dmin.1 (by simpa using hg65)) | exact .inr (dmax.1 (by simpa using hc69))
              have hkl : ks.length = 1 := by have h1 := kindsX_len (cols := cols) (may := (may && decide (¬ fam op = 5))) (l := kids) (by rw [hke]; simpa using hc28); rw [hke] at h1; simp only at h1; rw [h1, hwf.inv.1]; rcases hop with rfl | rfl <;> rfl
              obtain ⟨k0, rfl⟩ := List.length_eq_one_iff.1 hkl
              obtain ⟨bk, ok, ck, cs0, rfl, rfl, hcl0, hcell0⟩ := hfr.at (i := 0) (x := k0) rfl
              first | refine rv0 rfl rfl rfl (y_load ⟨Try.isAgg88, Try.sizeOf88⟩ rfl (by (repeat (first|exact zH _|apply zT));done) rfl) ?_ | refine rv0 rfl rfl rfl (y_load_slc ⟨Try.isAgg88, Try.sizeOf88⟩ rfl (by (repeat (first|exact zH _|apply zT));done) rfl) ?_
              first | refine rv0 rfl rfl rfl (y_indexAddr Try.underlying88 Try.sizeOf3 rfl rfl (by (first | omega | (dsimp only; omega) | (simp; done) | (simp; omega)))) ?_ | refine rv0 rfl rfl rfl (y_index_slc Try.underlying88 Try.sizeOf3 rfl rfl (by (repeat (first|exact zH _|apply zT));done) (by (first | omega | (dsimp only; omega) | (simp; done) | (simp; omega)))) ?_
              refine rv0 rfl rfl rfl ((y_load_ro ⟨Try.isAgg3, Try.sizeOf3⟩ rfl (hcell0 0 (.int .i64 k0) rfl))) ?_
              refine rv0 rfl rfl rfl (y_assign rfl) ?_
              refine rv0 rfl rfl rfl (y_assign rfl) ?_
              refine rj_nil ?_
              refine hK100 _ _ _ ?_
              refine cj_env (eL 6 rfl (eL 7 rfl eN)) ?_
              refine cj_ret ?_
              refine hret _ _ _ ?_
              apply ej_ret Try.results34 (.cons (rv_tmp rfl) (.cons (rv_tmp rfl) .nil)) _ [] hR3 rfl
              case hp => refine ⟨?_, rfl⟩; rw [hst]; clear hst hke hks hwf hx; simp_all [kstep, tupOf] <;> first | rfl | (rw [if_neg (by omega)]; exact ⟨rfl, rfl⟩)
              case hS => (repeat (first|exact zR _|(apply zP;focus (repeat (first|exact zH _|apply zT)))|apply zD|exact zA _ _))
             ·try simp only [dT, dF, nT, nF, tF, fT] at hc69
              refine cj_skip ?_
              refine hK96 _ _ _ ?_
              refine cj_seq (fun K101 hK101 => ?_)
              refine cj_region ?_
              refine rv0 rfl rfl rfl (y_assign rfl) ?_
              refine rv0 rfl rfl rfl (y_assign rfl) ?_
              refine rj_nil ?_
              refine hK101 _ _ _ ?_
              refine cj_ret ?_
              refine hret _ _ _ ?_
              apply ej_ret Try.results34 (.cons (rv_tmp rfl) (.cons (rv_tmp rfl) .nil)) _ [] hR3 rfl
              case hp => refine ⟨?_, rfl⟩; rw [hst]; clear hst hke hks hwf hx; simp_all [kstep, tupOf] <;> first | rfl | (rw [if_neg (by omega)]; exact ⟨rfl, rfl⟩)
              case hS => (repeat (first|exact zR _|(apply zP;focus (repeat (first|exact zH _|apply zT)))|apply zD|exact zA _ _))
          ·try simp only [dT, dF, nT, nF, tF, fT] at hg57
           refine rj_skip (wn2 rfl rfl rfl rfl rfl) rfl rfl ?_
           refine rj_skip (wn2 rfl rfl rfl rfl rfl) rfl rfl ?_
           refine rj_val (wn1 rfl rfl rfl rfl) rfl rfl (y_pick_f rfl rfl) ?_
           refine rv0 rfl rfl rfl (y_pick_f rfl rfl) ?_
           refine rj_nil ?_
           refine hK92 _ _ _ ?_
           refine cj_env (eL 3 rfl (eL 9 rfl (eL 61 rfl eN))) ?_
           refine cj_cond_f rfl ?_
           refine cj_skip ?_
           refine hK91 _ _ _ ?_
           refine cj_seq (fun K102 hK102 => ?_)
           refine cj_seq (fun K103 hK103 => ?_)
           refine cj_region ?_
           refine rv0 rfl rfl rfl (y_fieldAddr (k := 0) Try.underlying29 rfl (n := 1) (by decide) Try.sizeOf9 rfl) ?_
           first | refine rv0 rfl rfl rfl (y_load ⟨Try.isAgg9, Try.sizeOf9⟩ rfl (by (repeat (first|exact zH _|apply zT));done) rfl) ?_ | refine rv0 rfl rfl rfl (y_load_slc ⟨Try.isAgg9, Try.sizeOf9⟩ rfl (by (repeat (first|exact zH _|apply zT));done) rfl) ?_
           refine rv0 rfl rfl rfl (y_seql rfl rfl) ?_
           refine rv0 rfl rfl rfl (y_move rfl) ?_
           refine rj_part 65 rfl (fun hg65 => ?_) (fun hg65 => ?_)
           ·try simp only [dT, dF, nT, nF, tF, fT] at hg65
            refine rj_skip (wn2 rfl rfl rfl rfl rfl) rfl rfl ?_
            refine rj_skip (wn2 rfl rfl rfl rfl rfl) rfl rfl ?_
            refine rj_skip (wn2 rfl rfl rfl rfl rfl) rfl rfl ?_
            refine rv0 rfl rfl rfl (y_pick_t rfl rfl) ?_
            refine rj_nil ?_
            refine hK103 _ _ _ ?_
            refine cj_env (eL 9 rfl (eL 69 rfl eN)) ?_
            refine cj_cond_t rfl ?_
            refine cj_seq (fun K104 hK104 => ?_)
            refine cj_region ?_
            have hop : op = .min ∨ op = .max := by first | exact .inl (dmin.1 (by simpa using hg65)) | exact .inr (dmax.1 (by simpa using hc69))
            have hkl : ks.length = 1 := by have h1 := kindsX_len (cols := cols) (may := (may && decide (¬ fam op = 5))) (l := kids) (by rw [hke]; simpa using hc28); rw [hke] at h1; simp only at h1; rw [h1, hwf.inv.1]; rcases hop with rfl | rfl <;> rfl
            obtain ⟨k0, rfl⟩ := List.length_eq_one_iff.1 hkl
            obtain ⟨bk, ok, ck, cs0, rfl, rfl, hcl0, hcell0⟩ := hfr.at (i := 0) (x := k0) rfl
            first | refine rv0 rfl rfl rfl (y_load ⟨Try.isAgg88, Try.sizeOf88⟩ rfl (by (repeat (first|exact zH _|apply zT));done) rfl) ?_ | refine rv0 rfl rfl rfl (y_load_slc ⟨Try.isAgg88, Try.sizeOf88⟩ rfl (by (repeat (first|exact zH _|apply zT));done) rfl) ?_
            first | refine rv0 rfl rfl rfl (y_indexAddr Try.underlying88 Try.sizeOf3 rfl rfl (by (first | omega | (dsimp only; omega) | (simp; done) | (simp; omega)))) ?_ | refine rv0 rfl rfl rfl (y_index_slc Try.underlying88 Try.sizeOf3 rfl rfl (by (repeat (first|exact zH _|apply zT));done) (by (first | omega | (dsimp only; omega) | (simp; done) | (simp; omega)))) ?_
            refine rv0 rfl rfl rfl ((y_load_ro ⟨Try.isAgg3, Try.sizeOf3⟩ rfl (hcell0 0 (.int .i64 k0) rfl))) ?_
            refine rv0 rfl rfl rfl (y_assign rfl) ?_
            refine rv0 rfl rfl rfl (y_assign rfl) ?_
            refine rj_nil ?_
            refine hK104 _ _ _ ?_
            refine cj_env (eL 6 rfl (eL 7 rfl eN)) ?_
            refine cj_ret ?_
            refine hret _ _ _ ?_
            apply ej_ret Try.results34 (.cons (rv_tmp rfl) (.cons (rv_tmp rfl) .nil)) _ [] hR3 rfl
            case hp => refine ⟨?_, rfl⟩; rw [hst]; clear hst hke hks hwf hx; simp_all [kstep, tupOf] <;> first | rfl | (rw [if_neg (by omega)]; exact ⟨rfl, rfl⟩)
            case hS => (repeat (first|exact zR _|(apply zP;focus (repeat (first|exact zH _|apply zT)))|apply zD|exact zA _ _))
           ·try simp only [dT, dF, nT, nF, tF, fT] at hg65
            refine rj_val (wn1 rfl rfl rfl rfl) rfl rfl (y_fieldAddr (k := 0) Try.underlying29 rfl (n := 1) (by decide) Try.sizeOf9 rfl) ?_
            first | refine rj_val (wn1 rfl rfl rfl rfl) rfl rfl (y_load ⟨Try.isAgg9, Try.sizeOf9⟩ rfl (by (repeat (first|exact zH _|apply zT));done) rfl) ?_ | refine rj_val (wn1 rfl rfl rfl rfl) rfl rfl (y_load_slc ⟨Try.isAgg9, Try.sizeOf9⟩ rfl (by (repeat (first|exact zH _|apply zT));done) rfl) ?_
            refine rj_val (wn1 rfl rfl rfl rfl) rfl rfl (y_seql rfl rfl) ?_
            refine rv0 rfl rfl rfl (y_pick_f rfl rfl) ?_
            refine rj_nil ?_
            refine hK103 _ _ _ ?_
            refine cj_env (eL 9 rfl (eL 69 rfl eN)) ?_
            refine cj_cond rfl (fun hc69 => ?_) (fun hc69 => ?_)
            ·try simp only [dT, dF, nT, nF, tF, fT] at hc69
             refine cj_seq (fun K106 hK106 => ?_)
             refine cj_region ?_
             have hop : op = .min ∨ op = .max := by first | exact .inl (dmin.1 (by simpa using hg65)) | exact .inr (dmax.1 (by simpa using hc69))
             have hkl : ks.length = 1 := by have h1 := kindsX_len (cols := cols) (may := (may && decide (¬ fam op = 5))) (l := kids) (by rw [hke]; simpa using hc28); rw [hke] at h1; simp only at h1; rw [h1, hwf.inv.1]; rcases hop with rfl | rfl <;> rfl
             obtain ⟨k0, rfl⟩ := List.length_eq_one_iff.1 hkl
             obtain ⟨bk, ok, ck, cs0, rfl, rfl, hcl0, hcell0⟩ := hfr.at (i := 0) (x := k0) rfl
             first | refine rv0 rfl rfl rfl (y_load ⟨Try.isAgg88, Try.sizeOf88⟩ rfl (by (repeat (first|exact zH _|apply zT));done) rfl) ?_ | refine rv0 rfl rfl rfl (y_load_slc ⟨Try.isAgg88, Try.sizeOf88⟩ rfl (by (repeat (first|exact zH _|apply zT));done) rfl) ?_
             first | refine rv0 rfl rfl rfl (y_indexAddr Try.underlying88 Try.sizeOf3 rfl rfl (by (first | omega | (dsimp only; omega) | (simp; done) | (simp; omega)))) ?_ | refine rv0 rfl rfl rfl (y_index_slc Try.underlying88 Try.sizeOf3 rfl rfl (by (repeat (first|exact zH _|apply zT));done) (by (first | omega | (dsimp only; omega) | (simp; done) | (simp; omega)))) ?_
             refine rv0 rfl rfl rfl ((y_load_ro ⟨Try.isAgg3, Try.sizeOf3⟩ rfl (hcell0 0 (.int .i64 k0) rfl))) ?_
             refine rv0 rfl rfl rfl (y_assign rfl) ?_
             refine rv0 rfl rfl rfl (y_assign rfl) ?_
             refine rj_nil ?_
             refine hK106 _ _ _ ?_
             refine cj_env (eL 6 rfl (eL 7 rfl eN)) ?_
             refine cj_ret ?_
             refine hret _ _ _ ?_
             apply ej_ret Try.results34 (.cons (rv_tmp rfl) (.cons (rv_tmp rfl) .nil)) _ [] hR3 rfl
             case hp => refine ⟨?_, rfl⟩; rw [hst]; clear hst hke hks hwf hx; simp_all [kstep, tupOf] <;> first | rfl | (rw [if_neg (by omega)]; exact ⟨rfl, rfl⟩)
             case hS => (repeat (first|exact zR _|(apply zP;focus (repeat (first|exact zH _|apply zT)))|apply zD|exact zA _ _))
            ·try simp only [dT, dF, nT, nF, tF, fT] at hc69
             refine cj_skip ?_
             refine hK102 _ _ _ ?_
             refine cj_seq (fun K107 hK107 => ?_)
             refine cj_region ?_
             refine rv0 rfl rfl rfl (y_assign rfl) ?_
             refine rv0 rfl rfl rfl (y_assign rfl) ?_
             refine rj_nil ?_
             refine hK107 _ _ _ ?_
             refine cj_ret ?_
             refine hret _ _ _ ?_
             apply ej_ret Try.results34 (.cons (rv_tmp rfl) (.cons (rv_tmp rfl) .nil)) _ [] hR3 rfl
             case hp => refine ⟨?_, rfl⟩; rw [hst]; clear hst hke hks hwf hx; simp_all [kstep, tupOf] <;> first | rfl | (rw [if_neg (by omega)]; exact ⟨rfl, rfl⟩)
             case hS => (repeat (first|exact zR _|(apply zP;focus (repeat (first|exact zH _|apply zT)))|apply zD|exact zA _ _))
        ·try simp only [dT, dF, nT, nF, tF, fT] at hc49
         refine cj_skip ?_
         refine hK9 _ _ _ ?_
         refine cj_env (eL 1 rfl (eL 3 rfl eN)) ?_
         refine cj_seq (fun K108 hK108 => ?_)
         refine cj_seq (fun K109 hK109 => ?_)
         refine cj_region ?_
         refine rv0 rfl rfl rfl (y_fieldAddr (k := 0) Try.underlying29 rfl (n := 1) (by decide) Try.sizeOf9 rfl) ?_
         first | refine rv0 rfl rfl rfl (y_load ⟨Try.isAgg9, Try.sizeOf9⟩ rfl (by (repeat (first|exact zH _|apply zT));done) rfl) ?_ | refine rv0 rfl rfl rfl (y_load_slc ⟨Try.isAgg9, Try.sizeOf9⟩ rfl (by (repeat (first|exact zH _|apply zT));done) rfl) ?_
         refine rj_nil ?_
         refine hK109 _ _ _ ?_
         refine cj_block ?_
         refine cj_seq (fun K110 hK110 => ?_)
         refine cj_region ?_
         refine rv0 rfl rfl rfl (y_seql rfl rfl) ?_
         refine rv0 rfl rfl rfl (y_assign rfl) ?_
         refine rj_nil ?_
         refine hK110 _ _ _ ?_
         refine cj_cond rfl (fun hc75 => ?_) (fun hc75 => ?_)
         ·try simp only [dT, dF, nT, nF, tF, fT] at hc75
          refine cj_seq (fun K112 hK112 => ?_)
          refine cj_region ?_
          refine rv0 rfl rfl rfl (y_move rfl) ?_
          refine rv0 rfl rfl rfl (y_fieldAddr (k := 4) Try.underlying29 rfl (n := 1) (by decide) Try.sizeOf9 rfl) ?_
          first | refine rv0 rfl rfl rfl (y_load ⟨Try.isAgg9, Try.sizeOf9⟩ rfl (by (repeat (first|exact zH _|apply zT));done) rfl) ?_ | refine rv0 rfl rfl rfl (y_load_slc ⟨Try.isAgg9, Try.sizeOf9⟩ rfl (by (repeat (first|exact zH _|apply zT));done) rfl) ?_
          refine rv0 rfl rfl rfl (y_call Try.call53 rfl (place_q cols vc hcols3 name) (by (repeat (first|exact zN _|(apply zS;focus (repeat (first|exact zH _|apply zT))))))) ?_
          refine rv0 rfl rfl rfl (y_assign rfl) ?_
          refine rj_nil ?_
          refine hK112 _ _ _ ?_
          refine cj_env (eL 1 rfl (eL 12 rfl eN)) ?_
          refine cj_seq (fun K113 hK113 => ?_)
          refine cj_seq (fun K114 hK114 => ?_)
          refine cj_region ?_
          refine rv0 rfl rfl rfl (y_move rfl) ?_
          refine rv0 rfl rfl rfl (y_lss rfl rfl) ?_
          refine rj_nil ?_
          refine hK114 _ _ _ ?_
          refine cj_cond rfl (fun hc82 => ?_) (fun hc82 => ?_)
          ·try simp only [dT, dF, nT, nF, tF, fT] at hc82
           refine cj_seq (fun K116 hK116 => ?_)
           refine cj_region ?_
           refine rv0 rfl rfl rfl (y_assign rfl) ?_
           refine rv0 rfl rfl rfl (y_assign rfl) ?_
           refine rj_nil ?_
           refine hK116 _ _ _ ?_
           refine cj_env (eL 6 rfl (eL 7 rfl eN)) ?_
           refine cj_ret ?_
           refine hret _ _ _ ?_
           apply ej_ret Try.results34 (.cons (rv_tmp rfl) (.cons (rv_tmp rfl) .nil)) _ [] hR3 rfl
           case hp => refine ⟨?_, rfl⟩; rw [hst]; clear hst hke hks hwf hx; simp_all [kstep, tupOf] <;> first | rfl | (rw [if_neg (by omega)]; exact ⟨rfl, rfl⟩)
           case hS => (repeat (first|exact zR _|(apply zP;focus (repeat (first|exact zH _|apply zT)))|apply zD|exact zA _ _))
          ·try simp only [dT, dF, nT, nF, tF, fT] at hc82
           refine cj_skip ?_
           refine hK113 _ _ _ ?_
           refine cj_seq (fun K117 hK117 => ?_)
           refine cj_region ?_
           obtain ⟨x31, hx31⟩ : ∃ x, cols[(placeC cols name).toNat]? = some x := by have h1 := idxI_ge (fun c : Cl => decide (c.name = name)) cols; rw [← placeC_idx] at h1; exact ⟨_, List.getElem?_eq_getElem (by (try simp at hc82); omega)⟩
           have hp31 : 0 ≤ placeC cols name := by (try simp at hc82); omega
           have hd31 : cols.getD (placeC cols name).toNat ⟨[], 0, 0⟩ = x31 := by rw [List.getD_eq_getElem?_getD, hx31]; rfl
           obtain ⟨bk, ok, ck, cs0, rfl, rfl, hcl0, hcell0⟩ := hcols3.at hx31
           have hl31 := (List.getElem?_eq_some_iff.1 hx31).1
           refine rv0 rfl rfl rfl (y_move rfl) ?_
           refine rv0 rfl rfl rfl (y_move rfl) ?_
           first | refine rv0 rfl rfl rfl (y_indexAddr Try.underlying35 Try.sizeOf66 rfl rfl (by (first | omega | (dsimp only; omega) | (simp; done) | (simp; omega)))) ?_ | refine rv0 rfl rfl rfl (y_index_slc Try.underlying35 Try.sizeOf66 rfl rfl (by (repeat (first|exact zH _|apply zT));done) (by (first | omega | (dsimp only; omega) | (simp; done) | (simp; omega)))) ?_
           refine rv0 rfl rfl rfl (y_fieldAddr (k := 1) Try.underlying66 rfl (n := 1) (by decide) Try.sizeOf3 rfl) ?_
           refine rv0 rfl rfl rfl ((y_load_ro ⟨Try.isAgg3, Try.sizeOf3⟩ rfl (hcell0 1 (.int .i64 x31.kind) rfl))) ?_
           refine rv0 rfl rfl rfl (y_assign rfl) ?_
           refine rv0 rfl rfl rfl (y_assign rfl) ?_
           refine rj_nil ?_
           refine hK117 _ _ _ ?_
           refine cj_env (eL 6 rfl (eL 7 rfl eN)) ?_
           refine cj_ret ?_
           refine hret _ _ _ ?_
           apply ej_ret Try.results34 (.cons (rv_tmp rfl) (.cons (rv_tmp rfl) .nil)) _ [] hR3 rfl
           case hp => refine ⟨?_, rfl⟩; rw [hst]; clear hst hke hks hwf hx; simp_all [kstep, tupOf] <;> first | rfl | (rw [if_neg (by omega)]; exact ⟨rfl, rfl⟩)
           case hS => (repeat (first|exact zR _|(apply zP;focus (repeat (first|exact zH _|apply zT)))|apply zD|exact zA _ _))
         ·try simp only [dT, dF, nT, nF, tF, fT] at hc75
          refine cj_seq (fun K118 hK118 => ?_)
          refine cj_region ?_
          refine rv0 rfl rfl rfl (y_seql rfl rfl) ?_
          refine rv0 rfl rfl rfl (y_assign rfl) ?_
          refine rj_nil ?_
          refine hK118 _ _ _ ?_
          refine cj_env (eL 3 rfl (eL 88 rfl eN)) ?_
          refine cj_cond rfl (fun hc88 => ?_) (fun hc88 => ?_)
          ·try simp only [dT, dF, nT, nF, tF, fT] at hc88
           refine cj_seq (fun K120 hK120 => ?_)
           refine cj_region ?_
           refine rv0 rfl rfl rfl (y_assign rfl) ?_
           refine rv0 rfl rfl rfl (y_assign rfl) ?_
           refine rj_nil ?_
           refine hK120 _ _ _ ?_
           refine cj_ret ?_
           refine hret _ _ _ ?_
           apply ej_ret Try.results34 (.cons (rv_tmp rfl) (.cons (rv_tmp rfl) .nil)) _ [] hR3 rfl
           case hp => refine ⟨?_, rfl⟩; rw [hst]; clear hst hke hks hwf hx; simp_all [kstep, tupOf] <;> first | rfl | (rw [if_neg (by omega)]; exact ⟨rfl, rfl⟩)
           case hS => (repeat (first|exact zR _|(apply zP;focus (repeat (first|exact zH _|apply zT)))|apply zD|exact zA _ _))
          ·try simp only [dT, dF, nT, nF, tF, fT] at hc88
           refine cj_skip ?_
           refine hK108 _ _ _ ?_
           refine cj_seq (fun K121 hK121 => ?_)
           refine cj_region ?_
           refine rv0 rfl rfl rfl (y_fieldAddr (k := 1) Try.underlying29 rfl (n := 3) (by decide) Try.sizeOf26 rfl) ?_
           refine rv0 rfl rfl rfl (y_fieldAddr (k := 0) Try.underlying26 rfl (n := 1) (by decide) Try.sizeOf3 rfl) ?_
           first | refine rv0 rfl rfl rfl (y_load ⟨Try.isAgg3, Try.sizeOf3⟩ rfl (by (repeat (first|exact zH _|apply zT));done) rfl) ?_ | refine rv0 rfl rfl rfl (y_load_slc ⟨Try.isAgg3, Try.sizeOf3⟩ rfl (by (repeat (first|exact zH _|apply zT));done) rfl) ?_
           refine rv0 rfl rfl rfl (y_assign rfl) ?_
           refine rv0 rfl rfl rfl (y_assign rfl) ?_
           refine rj_nil ?_
           refine hK121 _ _ _ ?_
           refine cj_env (eL 6 rfl (eL 7 rfl eN)) ?_
           refine cj_ret ?_
           refine hret _ _ _ ?_
           apply ej_ret Try.results34 (.cons (rv_tmp rfl) (.cons (rv_tmp rfl) .nil)) _ [] hR3 rfl
           case hp => refine ⟨?_, rfl⟩; rw [hst]; clear hst hke hks hwf hx; simp_all [kstep, tupOf] <;> first | rfl | (rw [if_neg (by omega)]; exact ⟨rfl, rfl⟩)
           case hS => (repeat (first|exact zR _|(apply zP;focus (repeat (first|exact zH _|apply zT)))|apply zD|exact zA _ _))
  refine cj_region ?_
  refine rv0 rfl rfl rfl ((y_loads_blk (vs := exC op.str v name vk) ⟨Try.isAgg29, Try.sizeOf29⟩ rfl (by (repeat (first|exact zH _|apply zT));done) rfl rfl)) ?_
  refine rv0 rfl rfl rfl (y_move rfl) ?_
  refine rv0 rfl rfl rfl (y_move rfl) ?_
  refine rv0 rfl rfl rfl (y_move rfl) ?_
  refine rj_part 20 rfl (fun hg20 => ?_) (fun hg20 => ?_)
  ·have hkk : kindsX cols (!decide (fam op = 5)) (Ex.mk op v name kids).kids = (ks, er) := by rw [Ex.kids, ← hke, hg20]; simp
   refine rj_val (wn1 rfl rfl rfl rfl) rfl rfl (y_move rfl) ?_
   refine rj_val (wn1 rfl rfl rfl rfl) rfl rfl (y_neq rfl rfl) ?_
   refine rv0 rfl rfl rfl (y_pick_t rfl rfl) ?_
   refine rj_call (wn0 rfl) rfl Try.call50 rfl (hks _) (by (repeat (first|exact zN _|(apply zS;focus (repeat (first|exact zH _|apply zT)))))) (fun _ _ _ _ h => h.elim) ?_
   rintro u R2 L' hR2 ⟨rfl, vl, rfl, hfr⟩
   rw [hkk] at hfr ⊢
   have hvo := hfr.one
   try simp only [List.cons_append, List.nil_append]
   refine rv0 rfl rfl rfl (y_move rfl) ?_
   refine rv0 rfl rfl rfl (y_extract rfl rfl) ?_
   refine rv0 rfl rfl rfl (y_extract rfl rfl) ?_
   refine rj_alloc (wn0 rfl) rfl Try.zeroValue88 rfl (fun b9 => ?_)
   refine rj_store ⟨Try.isAgg88, Try.sizeOf88⟩ (wn0 rfl) rfl rfl (by (first | rfl | assumption | (apply cutV_one; assumption))) (by (repeat (first|exact zH _|apply zT));done) rfl rfl ?_
   refine rv0 rfl rfl rfl (y_assign rfl) ?_
   refine rj_nil ?_
   refine ej_join hJ3 ((R2, vl, b9)) (⟨hR2, hfr⟩) (eC rfl (eC rfl (eC rfl (eC rfl (eC rfl (eC rfl eN)))))) rfl (by (repeat (first|exact zR _|(apply zP;focus (repeat (first|exact zH _|apply zT)))|apply zD|exact zA _ _)))
  ·have hkk : kindsX cols false (Ex.mk op v name kids).kids = (ks, er) := by rw [Ex.kids, ← hke, hg20]; simp
   refine rj_skip (wn2 rfl rfl rfl rfl rfl) rfl rfl ?_
   refine rj_skip (wn2 rfl rfl rfl rfl rfl) rfl rfl ?_
   refine rv0 rfl rfl rfl (y_pick_f rfl rfl) ?_
   refine rj_call (wn0 rfl) rfl Try.call50 rfl (hks _) (by (repeat (first|exact zN _|(apply zS;focus (repeat (first|exact zH _|apply zT)))))) (fun _ _ _ _ h => h.elim) ?_
   rintro u R2 L' hR2 ⟨rfl, vl, rfl, hfr⟩
   rw [hkk] at hfr ⊢
   have hvo := hfr.one
   try simp only [List.cons_append, List.nil_append]
   refine rv0 rfl rfl rfl (y_move rfl) ?_
   refine rv0 rfl rfl rfl (y_extract rfl rfl) ?_
   refine rv0 rfl rfl rfl (y_extract rfl rfl) ?_
   refine rj_alloc (wn0 rfl) rfl Try.zeroValue88 rfl (fun b9 => ?_)
   refine rj_store ⟨Try.isAgg88, Try.sizeOf88⟩ (wn0 rfl) rfl rfl (by (first | rfl | assumption | (apply cutV_one; assumption))) (by (repeat (first|exact zH _|apply zT));done) rfl rfl ?_
   refine rv0 rfl rfl rfl (y_assign rfl) ?_
   refine rj_nil ?_
   refine ej_join hJ3 ((R2, vl, b9)) (⟨hR2, hfr⟩) (eC rfl (eC rfl (eC rfl (eC rfl (eC rfl (eC rfl eN)))))) rfl (by (repeat (first|exact zR _|(apply zP;focus (repeat (first|exact zH _|apply zT)))|apply zD|exact zA _ _)))
theorem Kind_q {R : Hp} (x : Ex) (cs : List Value) (cols : List Cl) (vc : Value) (may : Bool) (hwf : WfX x) (hx : RepX R x cs) (hcols : FrX colE R cols vc) : QTri Try.prog 12 [.agg ⟨cs⟩, vc, .bool may] R [] (tupOf [.int .i64 (kindE cols may x).1, .int .i64 (kindE cols may x).2]) := by
  have hvc := hcols.one
  have hxo := hx.one
  have hxl := hx.len
  refine Tri.q2 ?_
  refine tri_of Try.func12 rfl Try.ntmps12 rfl (fun σ F Q hret hend hpan => ?_)
  try simp only [List.cons_append, List.nil_append]
  refine cj_env (eL 0 rfl (eL 1 rfl (eL 2 rfl eN))) ?_
  refine cj_seq (fun K1 hK1 => ?_)
  refine cj_region ?_
  refine rj_box (wn0 rfl) rfl rfl rfl (fun b3 => ?_)
  refine rv0 rfl rfl rfl (y_assign rfl) ?_
  refine rv0 rfl rfl rfl (y_assign rfl) ?_
  refine rj_nil ?_
  refine hK1 _ _ _ ?_
  refine cj_env (eL 1 rfl (eL 2 rfl (eL 3 rfl eN))) ?_
  refine cj_seq (fun K2 hK2 => ?_)
  refine cj_region ?_
  refine rv0 rfl rfl rfl ((y_loads_all (vs := cs) ⟨Try.isAgg29, Try.sizeOf29⟩ hxl rfl (by (repeat (first|exact zH _|apply zT));done))) ?_
  refine rv0 rfl rfl rfl (y_move rfl) ?_
  refine rv0 rfl rfl rfl (y_move rfl) ?_
  refine rv0 rfl rfl rfl (y_call Try.call34 rfl (kind_q _ x cs cols vc may (Nat.le_refl _) hwf hx hcols) (by (repeat (first|exact zN _|(apply zS;focus (repeat (first|exact zH _|apply zT))))))) ?_
  refine rv0 rfl rfl rfl (y_move rfl) ?_
  refine rv0 rfl rfl rfl (y_extract rfl rfl) ?_
  refine rv0 rfl rfl rfl (y_extract rfl rfl) ?_
  refine rv0 rfl rfl rfl (y_assign rfl) ?_
  refine rv0 rfl rfl rfl (y_assign rfl) ?_
  refine rj_nil ?_
  refine hK2 _ _ _ ?_
  refine cj_env (eL 3 rfl (eL 8 rfl (eL 9 rfl eN))) ?_
  refine cj_seq (fun K3 hK3 => ?_)
  refine cj_seq (fun K4 hK4 => ?_)
  refine cj_region ?_
  refine rv0 rfl rfl rfl (y_move rfl) ?_
  refine rv0 rfl rfl rfl (y_eql rfl rfl) ?_
  refine rv0 rfl rfl rfl (y_move rfl) ?_
  refine rj_part 19 rfl (fun hg19 => ?_) (fun hg19 => ?_)
  ·try simp only [dT, dF, nT, nF, tF, fT] at hg19
   refine rj_val (wn1 rfl rfl rfl rfl) rfl rfl ((y_loads_all (vs := cs) ⟨Try.isAgg29, Try.sizeOf29⟩ hxl rfl (by (repeat (first|exact zH _|apply zT));done))) ?_
   refine rj_val (wn1 rfl rfl rfl rfl) rfl rfl (y_call Try.call15 rfl (group_q _ x cs (Nat.le_refl _) hx) (by (repeat (first|exact zN _|(apply zS;focus (repeat (first|exact zH _|apply zT))))))) ?_
   refine rv0 rfl rfl rfl (y_pick_t rfl rfl) ?_
   refine rv0 rfl rfl rfl (y_move rfl) ?_
   refine rj_part 23 rfl (fun hg23 => ?_) (fun hg23 => ?_)
   ·try simp only [dT, dF, nT, nF, tF, fT] at hg23
    refine rj_val (wn1 rfl rfl rfl rfl) rfl rfl ((y_loads_all (vs := cs) ⟨Try.isAgg29, Try.sizeOf29⟩ hxl rfl (by (repeat (first|exact zH _|apply zT));done))) ?_
    refine rj_val (wn1 rfl rfl rfl rfl) rfl rfl (y_call Try.call35 rfl (bare_q _ x cs (Nat.le_refl _) hx) (by (repeat (first|exact zN _|(apply zS;focus (repeat (first|exact zH _|apply zT))))))) ?_
    refine rv0 rfl rfl rfl (y_pick_t rfl rfl) ?_
    refine rj_nil ?_
    refine hK4 _ _ _ ?_
    refine cj_env (eL 8 rfl (eL 9 rfl (eL 26 rfl eN))) ?_
    refine cj_cond rfl (fun hc26 => ?_) (fun hc26 => ?_)
    ·try simp only [dT, dF, nT, nF, tF, fT] at hc26
     refine cj_seq (fun K6 hK6 => ?_)
     refine cj_region ?_
     refine rv0 rfl rfl rfl (y_assign rfl) ?_
     refine rv0 rfl rfl rfl (y_assign rfl) ?_
     refine rj_nil ?_
     refine hK6 _ _ _ ?_
     refine cj_env (eL 6 rfl (eL 7 rfl eN)) ?_
     refine cj_ret ?_
     refine hret _ _ _ ?_
     apply ej_ret Try.results12 (.cons (rv_tmp rfl) (.cons (rv_tmp rfl) .nil)) _ [] (by (first | exact Hp.le_refl _ | assumption | exact Hp.le_trans ‹_› ‹_›)) rfl
     case hp => refine ⟨?_, rfl⟩; simp_all [kindE, tupOf]
     case hS => (repeat (first|exact zR _|(apply zP;focus (repeat (first|exact zH _|apply zT)))|apply zD|exact zA _ _))
    ·try simp only [dT, dF, nT, nF, tF, fT] at hc26
     refine cj_skip ?_
     refine hK3 _ _ _ ?_
     refine cj_seq (fun K7 hK7 => ?_)
     refine cj_region ?_
     refine rv0 rfl rfl rfl (y_move rfl) ?_
     refine rv0 rfl rfl rfl (y_move rfl) ?_
     refine rv0 rfl rfl rfl (y_assign rfl) ?_
     refine rv0 rfl rfl rfl (y_assign rfl) ?_
     refine rj_nil ?_
     refine hK7 _ _ _ ?_
     refine cj_env (eL 6 rfl (eL 7 rfl eN)) ?_
     refine cj_ret ?_
     refine hret _ _ _ ?_
     apply ej_ret Try.results12 (.cons (rv_tmp rfl) (.cons (rv_tmp rfl) .nil)) _ [] (by (first | exact Hp.le_refl _ | assumption | exact Hp.le_trans ‹_› ‹_›)) rfl
     case hp => refine ⟨?_, rfl⟩; simp_all [kindE, tupOf]
     case hS => (repeat (first|exact zR _|(apply zP;focus (repeat (first|exact zH _|apply zT)))|apply zD|exact zA _ _))
   ·try simp only [dT, dF, nT, nF, tF, fT] at hg23
    refine rj_skip (wn2 rfl rfl rfl rfl rfl) rfl rfl ?_
    refine rj_skip (wn2 rfl rfl rfl rfl rfl) rfl rfl ?_
    refine rv0 rfl rfl rfl (y_pick_f rfl rfl) ?_
    refine rj_nil ?_
    refine hK4 _ _ _ ?_
    refine cj_env (eL 8 rfl (eL 9 rfl (eL 26 rfl eN))) ?_
    refine cj_cond_f rfl ?_
    refine cj_skip ?_
    refine hK3 _ _ _ ?_
    refine cj_seq (fun K8 hK8 => ?_)
    refine cj_region ?_
    refine rv0 rfl rfl rfl (y_move rfl) ?_
    refine rv0 rfl rfl rfl (y_move rfl) ?_
    refine rv0 rfl rfl rfl (y_assign rfl) ?_
    refine rv0 rfl rfl rfl (y_assign rfl) ?_
    refine rj_nil ?_
    refine hK8 _ _ _ ?_
    refine cj_env (eL 6 rfl (eL 7 rfl eN)) ?_
    refine cj_ret ?_
    refine hret _ _ _ ?_
    apply ej_ret Try.results12 (.cons (rv_tmp rfl) (.cons (rv_tmp rfl) .nil)) _ [] (by (first | exact Hp.le_refl _ | assumption | exact Hp.le_trans ‹_› ‹_›)) rfl
    case hp => refine ⟨?_, rfl⟩; simp_all [kindE, tupOf]
    case hS => (repeat (first|exact zR _|(apply zP;focus (repeat (first|exact zH _|apply zT)))|apply zD|exact zA _ _))
  ·try simp only [dT, dF, nT, nF, tF, fT] at hg19
   refine rj_skip (wn2 rfl rfl rfl rfl rfl) rfl rfl ?_
   refine rj_skip (wn2 rfl rfl rfl rfl rfl) rfl rfl ?_
   refine rv0 rfl rfl rfl (y_pick_f rfl rfl) ?_
   refine rv0 rfl rfl rfl (y_move rfl) ?_
   refine rj_skip (wn2 rfl rfl rfl rfl rfl) rfl rfl ?_
   refine rj_skip (wn2 rfl rfl rfl rfl rfl) rfl rfl ?_
   refine rv0 rfl rfl rfl (y_pick_f rfl rfl) ?_
   refine rj_nil ?_
   refine hK4 _ _ _ ?_
   refine cj_env (eL 8 rfl (eL 9 rfl (eL 26 rfl eN))) ?_
   refine cj_cond_f rfl ?_
   refine cj_skip ?_
   refine hK3 _ _ _ ?_
   refine cj_seq (fun K9 hK9 => ?_)
   refine cj_region ?_
   refine rv0 rfl rfl rfl (y_move rfl) ?_
   refine rv0 rfl rfl rfl (y_move rfl) ?_
   refine rv0 rfl rfl rfl (y_assign rfl) ?_
   refine rv0 rfl rfl rfl (y_assign rfl) ?_
   refine rj_nil ?_
   refine hK9 _ _ _ ?_
   refine cj_env (eL 6 rfl (eL 7 rfl eN)) ?_
   refine cj_ret ?_
   refine hret _ _ _ ?_
   apply ej_ret Try.results12 (.cons (rv_tmp rfl) (.cons (rv_tmp rfl) .nil)) _ [] (by (first | exact Hp.le_refl _ | assumption | exact Hp.le_trans ‹_› ‹_›)) rfl
   case hp => refine ⟨?_, rfl⟩; simp_all [kindE, tupOf]
   case hS => (repeat (first|exact zR _|(apply zP;focus (repeat (first|exact zH _|apply zT)))|apply zD|exact zA _ _))
end V
end Go.Proofs.Ytghgifgmacapcaa
