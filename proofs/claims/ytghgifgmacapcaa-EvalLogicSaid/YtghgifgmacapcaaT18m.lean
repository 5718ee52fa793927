/- A group's value, walked. -/
import Derived.Test.YtghgifgmacapcaaT18l
set_option linter.unusedSimpArgs false
set_option linter.unusedVariables false
set_option maxRecDepth 100000
namespace Go.Proofs.Ytghgifgmacapcaa
open Go.RowKit
namespace V
set_option maxHeartbeats 4000000
def rowE : Elt (List Vl) where
  P := fun R row cs => ∃ v, cs = [v] ∧ FrX valE R row v
  sz := 1
  mono := fun hR ⟨v, h, k⟩ => ⟨v, h, k.mono hR⟩
  len := fun ⟨v, h, k⟩ => by subst h; rfl
  one := fun ⟨v, h, k⟩ u hu => by subst h; simp at hu; subst hu; exact k.one
theorem FrX.sub {α : Type} {T : Elt α} {R : Hp} {l : List α} {q : Option Addr} {cap : Nat} (h : FrX T R l (.slice q l.length cap)) {a b : Nat} (hab : a ≤ b) (hb : b ≤ l.length) : FrX T R ((l.drop a).take (b - a)) (.slice (partAddr q a cap T.sz) (b - a) (cap - a)) := by
  obtain ⟨css, hE, q', cap', e, h1, h2, h3⟩ := h
  cases e
  have hlen : ((l.drop a).take (b - a)).length = b - a := by simp; omega
  refine ⟨(css.drop a).take (b - a), (hE.drop a).take (b - a), partAddr q a cap T.sz, cap - a, by rw [hlen], by rw [hlen]; omega, by omega, ?_⟩
  rw [hlen]
  rcases Nat.eq_zero_or_pos (b - a) with h0 | h0
  · exact .inl h0
  · rcases h3 with h3 | ⟨b0, off, rfl, hc⟩
    · omega
    · refine .inr ⟨b0, off + a * T.sz, by unfold partAddr; rw [if_neg (by omega)]; simp [add_mk], fun j u hj => ?_⟩
      rw [← ftake (n := T.sz) _ (fun c hc => hE.len c (List.mem_of_mem_drop hc)), ← fdrop (n := T.sz) _ hE.len, List.getElem?_take] at hj
      split at hj
      · rw [List.getElem?_drop] at hj
        rw [Nat.add_assoc]; exact hc _ u hj
      · cases hj
def resV : Except Int Vl → Except Int Value
  | .ok v => .ok (.agg ⟨valC v⟩)
  | .error e => .error e
theorem resV_ok {e : Except Int Vl} {u : Value} (h : resV e = .ok u) : ∃ v, e = .ok v ∧ u = .agg ⟨valC v⟩ := by
  cases e with
  | ok v => cases h; exact ⟨v, rfl, rfl⟩
  | error e => cases h
theorem resV_err {e : Except Int Vl} {n : Int} (h : resV e = .error n) : e = .error n := by
  cases e with
  | ok v => cases h
  | error e => cases h; rfl
theorem intV_ok {e : Except Int Int} {u : Value} (h : intV e = .ok u) : ∃ n, e = .ok n ∧ u = .int .i64 n := by
  cases e with
  | ok n => cases h; exact ⟨n, rfl, rfl⟩
  | error e => cases h
theorem intV_err {e : Except Int Int} {n : Int} (h : intV e = .error n) : e = .error n := by
  cases e with
  | ok v => cases h
  | error e => cases h; rfl
theorem drop_one {α : Type} {l : List α} {i : Nat} {x : α} (h : l[i]? = some x) : (l.drop i).take (i + 1 - i) = [x] := by
  rw [show i + 1 - i = 1 by omega, List.take_one, List.head?_drop, h]; rfl
theorem groupV_p {R : Hp} (op : Op) (lit : Vl) (name : Bs) (kids : List Ex) (vk : Value) (cols : List Cl) (vc : Value) (rows : List (List Vl)) (vr : Value) (h5 : fam op = 5) (hw : WfX (.mk op lit name kids)) (hk : FrX exE R kids vk) (hc : FrX colE R cols vc) (hr : FrX rowE R rows vr) (hro : RowsOK cols rows)
    (hsnd : ∃ K : Int, (op = .sum → K = 0 ∨ K = 1) ∧ ∀ y ∈ kids, ∀ row ∈ rows, ∀ v, evX vstep gstep cols [row] y = .ok v → sndV v ∧ (v.kind = 0 ∨ v.kind = K))
    (hcall : ∀ y cy row vr', y ∈ kids → RepX R y cy → row ∈ rows → FrX rowE R [row] vr' → Giv 42 [.agg ⟨[vc, vr']⟩, .agg ⟨cy⟩] R [] (resV (evX vstep gstep cols [row] y))) :
    Giv 59 [.agg ⟨[vc, vr]⟩, .agg ⟨exC op.str lit name vk⟩] R [] (resV (evX vstep gstep cols rows (.mk op lit name kids))) := by
  obtain ⟨K, hK, hsnd⟩ := hsnd
  obtain ⟨q, cap, rfl, hcap, hcm⟩ := hr.shape
  have hlb : rows.length ≤ maxLen := Nat.le_trans hcap hcm
  unfold maxLen at hlb
  obtain ⟨qc, capc, rfl, _, _⟩ := hc.shape
  have hvk := hk.one
  have dcnt : op.str = [99, 111, 117, 110, 116] ↔ op = .count := by cases op <;> decide
  have dsum : op.str = [115, 117, 109] ↔ op = .sum := by cases op <;> decide
  have dmin : decide (op.str = [109, 105, 110]) = decide (op = .min) := by cases op <;> rfl
  have hv1 : ¬ op = .val := by rintro rfl; simp [fam] at h5
  have hv2 : ¬ op = .col := by rintro rfl; simp [fam] at h5
  obtain ⟨res, hres⟩ : ∃ r, evX vstep gstep cols rows (.mk op lit name kids) = r := ⟨_, rfl⟩
  rw [hres]
  rw [evX, if_neg hv1, if_neg hv2] at hres
  refine PTri.of ?_
  unfold exC
  refine tri_of Try.func59 rfl Try.ntmps59 rfl (fun σ F Q hret hend hpan => ?_)
  try simp only [List.cons_append, List.nil_append]
  refine cj_env (eL 0 rfl (eL 1 rfl eN)) ?_
  refine cj_seq (fun K1 hK1 => ?_)
  refine cj_region ?_
  refine rj_box (wn0 rfl) rfl rfl rfl (fun b2 => ?_)
  refine rj_box (wn0 rfl) rfl rfl rfl (fun b3 => ?_)
  refine rj_alloc (wn0 rfl) rfl Try.zeroValue26 rfl (fun b4 => ?_)
  refine rj_nil ?_
  refine hK1 _ _ _ ?_
  refine cj_seq (fun K2 hK2 => ?_)
  refine cj_seq (fun K3 hK3 => ?_)
  refine cj_region ?_
  refine rv0 rfl rfl rfl (y_fieldAddr (k := 0) Try.underlying29 rfl (n := 1) (by decide) Try.sizeOf9 rfl) ?_
  first | refine rv0 rfl rfl rfl (y_load ⟨Try.isAgg9, Try.sizeOf9⟩ rfl (by (repeat (first|exact zH _|apply zT));done) rfl) ?_ | refine rv0 rfl rfl rfl (y_load_slc ⟨Try.isAgg9, Try.sizeOf9⟩ rfl (by (repeat (first|exact zH _|apply zT));done) rfl) ?_
  refine rv0 rfl rfl rfl (y_seql rfl rfl) ?_
  refine rj_nil ?_
  refine hK3 _ _ _ ?_
  refine cj_env (eL 2 rfl (eL 3 rfl (eL 4 rfl (eL 10 rfl eN)))) ?_
  refine cj_cond rfl (fun hc10 => ?_) (fun hc10 => ?_)
  ·obtain rfl : op = .count := dcnt.1 (by simpa using hc10)
   refine cj_seq (fun K5 hK5 => ?_)
   refine cj_region ?_
   refine rv0 rfl rfl rfl (y_fieldAddr (k := 1) Try.underlying81 rfl (n := 1) (by decide) Try.sizeOf45 rfl) ?_
   first | refine rv0 rfl rfl rfl (y_load ⟨Try.isAgg45, Try.sizeOf45⟩ rfl (by (repeat (first|exact zH _|apply zT));done) rfl) ?_ | refine rv0 rfl rfl rfl (y_load_slc ⟨Try.isAgg45, Try.sizeOf45⟩ rfl (by (repeat (first|exact zH _|apply zT));done) rfl) ?_
   first | refine rv0 rfl rfl rfl (y_len_sl Try.underlying45 rfl) ?_ | refine rv0 rfl rfl rfl (y_len_slc Try.underlying45 rfl (by (repeat (first|exact zH _|apply zT));done)) ?_
   refine rv0 rfl rfl rfl (y_call Try.call64 rfl (number_q _) (by (repeat (first|exact zN _|(apply zS;focus (repeat (first|exact zH _|apply zT))))))) ?_
   refine rj_stores_all (vs := valC ⟨1, (rows.length : Int), []⟩) ⟨Try.isAgg26, Try.sizeOf26⟩ rfl (wn0 rfl) rfl rfl (valE.one (R := R) (x := ⟨1, (rows.length : Int), []⟩) rfl) (by (repeat (first|exact zH _|apply zT));done) rfl ?_
   refine rj_nil ?_
   refine hK5 _ _ _ ?_
   refine cj_env (eL 4 rfl eN) ?_
   refine cj_ret ?_
   refine hret _ _ _ ?_
   apply ej_ret Try.results59 (.cons (rv_cells ⟨Try.isAgg26, Try.sizeOf26⟩ rfl (by (repeat (first|exact zH _|apply zT));done) rfl rfl) .nil) _ [] (by (first | exact Hp.le_refl _ | assumption | exact Hp.le_trans ‹_› ‹_›)) rfl
   case hp => rw [if_pos rfl] at hres; exact ⟨by rw [← hres]; rfl, rfl⟩
   case hS => (repeat (first|exact zR _|(apply zP;focus (repeat (first|exact zH _|apply zT)))|apply zD|exact zA _ _))
  ·have hcn : ¬ op = .count := fun h => by have := dcnt.2 h; simp [this] at hc10
   obtain ⟨k, rfl⟩ := kid1 hw.inv.1 h5 hcn
   obtain ⟨bk, ok, ck, cs0, rfl, hrep, hcl0, hcell0⟩ := hk.at (i := 0) (x := k) rfl
   rw [if_neg hcn, if_pos h5, evG] at hres
   refine cj_skip ?_
   refine hK2 _ _ _ ?_
   refine cj_seq (fun K6 hK6 => ?_)
   refine cj_region ?_
   refine rj_alloc (wn0 rfl) rfl Try.zeroValue26 rfl (fun b5 => ?_)
   refine rj_nil ?_
   refine hK6 _ _ _ ?_
   refine cj_seq (fun K7 hK7 => ?_)
   refine cj_seq (fun K8 hK8 => ?_)
   refine cj_region ?_
   refine rv0 rfl rfl rfl (y_fieldAddr (k := 1) Try.underlying81 rfl (n := 1) (by decide) Try.sizeOf45 rfl) ?_
   first | refine rv0 rfl rfl rfl (y_load ⟨Try.isAgg45, Try.sizeOf45⟩ rfl (by (repeat (first|exact zH _|apply zT));done) rfl) ?_ | refine rv0 rfl rfl rfl (y_load_slc ⟨Try.isAgg45, Try.sizeOf45⟩ rfl (by (repeat (first|exact zH _|apply zT));done) rfl) ?_
   first | refine rv0 rfl rfl rfl (y_len_sl Try.underlying45 rfl) ?_ | refine rv0 rfl rfl rfl (y_len_slc Try.underlying45 rfl (by (repeat (first|exact zH _|apply zT));done)) ?_
   refine rv0 rfl rfl rfl (y_move rfl) ?_
   refine rj_nil ?_
   refine hK8 _ _ _ ?_
   refine cj_env (eL 2 rfl (eL 3 rfl (eL 4 rfl (eL 5 rfl (eL 17 rfl (eL 18 rfl eN)))))) ?_
   refine cj_block ?_
   refine cj_env (E' := (fun (x : Nat × Vl) => [(2, .pointer (some ⟨b2, 0, none⟩)), (3, .pointer (some ⟨b3, 0, none⟩)), (4, .pointer (some ⟨b4, 0, none⟩)), (5, .pointer (some ⟨b5, 0, none⟩)), (17, .int .i64 (rows.length : Int)), (18, .int .i64 (x.1 : Int))]) (0, Vl.zero)) (eC rfl (eC rfl (eC rfl (eC rfl (eC rfl (eC rfl eN)))))) ?_
   refine cj_sub (M := (fun (x : Nat × Vl) => blk b5 (valC x.2) 26 :: blk b4 (valC Vl.zero) 26 :: blk b3 [.string (str op.str), .int .i64 lit.kind, .int .i64 lit.n, .string (str lit.s), .string (str name), .slice (some ⟨bk, ok, none⟩) [k].length ck] 29 :: blk b2 [.slice qc cols.length capc, .slice q rows.length cap] 81 :: F) (0, Vl.zero)) (by (repeat (first|exact zR _|(apply zP;focus (repeat (first|exact zH _|apply zT)))|apply zD|exact zA _ _))) ?_
   refine cj_loop (fun (x : Nat × Vl) => [(2, .pointer (some ⟨b2, 0, none⟩)), (3, .pointer (some ⟨b3, 0, none⟩)), (4, .pointer (some ⟨b4, 0, none⟩)), (5, .pointer (some ⟨b5, 0, none⟩)), (17, .int .i64 (rows.length : Int)), (18, .int .i64 (x.1 : Int))]) (fun (x : Nat × Vl) => R) (fun (x : Nat × Vl) => blk b5 (valC x.2) 26 :: blk b4 (valC Vl.zero) 26 :: blk b3 [.string (str op.str), .int .i64 lit.kind, .int .i64 lit.n, .string (str lit.s), .string (str name), .slice (some ⟨bk, ok, none⟩) [k].length ck] 29 :: blk b2 [.slice qc cols.length capc, .slice q rows.length cap] 81 :: F) (fun (x : Nat × Vl) => x.1 ≤ rows.length ∧ foldE (fun row => evX vstep gstep cols [row] k) (gstep op) (rows.take x.1) Vl.zero = .ok x.2) (fun (x : Nat × Vl) => rows.length - x.1) (0, Vl.zero) (⟨by simp, by simp [foldE]⟩) ?_
   rintro ⟨i, out⟩ ⟨hi, hfold⟩
   try dsimp only
   dsimp only at hi hfold
   refine cj_seq (fun K9 hK9 => ?_)
   refine cj_region ?_
   refine rv0 rfl rfl rfl (y_lss rfl rfl) ?_
   refine rj_nil ?_
   refine hK9 _ _ _ ?_
   refine cj_seq (fun K10 hK10 => ?_)
   refine cj_cond rfl (fun hc19 => ?_) (fun hc19 => ?_)
   ·try simp only [dT, dF, nT, nF, tF, fT] at hc19
    refine cj_skip ?_
    refine hK10 _ _ _ ?_
    refine cj_seq (fun K12 hK12 => ?_)
    have hJ15 : ∀ (x : Vl), foldE (fun row => evX vstep gstep cols [row] k) (gstep op) (rows.take (i + 1)) Vl.zero = .ok x → EJ ⟨Try.prog, 66, σ⟩ K12 [(2, .pointer (some ⟨b2, 0, none⟩)), (3, .pointer (some ⟨b3, 0, none⟩)), (4, .pointer (some ⟨b4, 0, none⟩)), (5, .pointer (some ⟨b5, 0, none⟩)), (17, .int .i64 (rows.length : Int)), (18, .int .i64 (i : Int))] R (blk b5 (valC x) 26 :: blk b4 (valC Vl.zero) 26 :: blk b3 [.string (str op.str), .int .i64 lit.kind, .int .i64 lit.n, .string (str lit.s), .string (str name), .slice (some ⟨bk, ok, none⟩) [k].length ck] 29 :: blk b2 [.slice qc cols.length capc, .slice q rows.length cap] 81 :: F) := by
     rintro out' hg
     try dsimp only
     refine hK12 _ _ _ ?_
     refine cj_region ?_
     first | refine rv0 rfl rfl rfl (y_add64 rfl rfl (by (first | omega | (dsimp only; omega) | (simp; done) | (simp; omega)))) ?_ | refine rv0 rfl rfl rfl (y_add rfl rfl) ?_
     refine rv0 rfl rfl rfl (y_move rfl) ?_
     refine rj_nil ?_
     refine ej_on (q' := roundK _ _ _ _ _ _ _) rfl ?_
     refine ej_round ((i + 1, out')) (⟨by dsimp only; omega, hg⟩) (by dsimp only; omega) (eC rfl (eC rfl (eC rfl (eC rfl (eC rfl (eC rfl eN)))))) rfl (by (repeat (first|exact zR _|(apply zP;focus (repeat (first|exact zH _|apply zT)))|apply zD|exact zA _ _)))
    refine cj_block ?_
    refine cj_seq (fun K13 hK13 => ?_)
    refine cj_region ?_
    refine rv0 rfl rfl rfl (y_move rfl) ?_
    refine rv0 rfl rfl rfl (y_assign rfl) ?_
    refine rj_nil ?_
    refine hK13 _ _ _ ?_
    refine cj_seq (fun K14 hK14 => ?_)
    obtain ⟨row, hx⟩ : ∃ row, rows[i]? = some row := ⟨rows[i]'(by (try simp at hc19); omega), by simp⟩
    have hi2 : i < rows.length := (List.getElem?_eq_some_iff.1 hx).1
    have hrm := List.mem_of_getElem? hx
    have hsub := hr.sub (a := i) (b := i + 1) (by omega) (by omega)
    rw [drop_one hx] at hsub
    have hso := (foldE_ok (f := fun row => evX vstep gstep cols [row] k) (op := op) hK (l := rows.take i) (out := Vl.zero) (o := out) (fun row hm u hu => hsnd k (by simp) row (List.mem_of_mem_take hm) u hu) .zero (.inl rfl) hfold).1
    refine cj_mixs (L := [blk b3 [.string (str op.str), .int .i64 lit.kind, .int .i64 lit.n, .string (str lit.s), .string (str name), .slice (some ⟨bk, ok, none⟩) [k].length ck] 29, blk b2 [.slice qc cols.length capc, .slice q rows.length cap] 81]) [0, 1, 2, 3, 4, 5, 6, 7, 8, 9, 10, 11, 12] [13, 14] [15] _ panX_ok (by (repeat (first|exact zR _|(apply zP;focus (repeat (first|exact zH _|apply zT)))|apply zD|exact zA _ _))) (by kernel_rfl) (by kernel_rfl) (by kernel_rfl) rfl ?_
    refine fj_val rfl rfl rfl (wn0 rfl) (fun R1 hR1 G => (y_fieldAddr (k := 0) Try.underlying81 rfl (n := 1) (by decide) Try.sizeOf35 rfl)) ?_
    first | refine fj_val rfl rfl rfl (wn0 rfl) (fun R1 hR1 G => (y_load ⟨Try.isAgg35, Try.sizeOf35⟩ rfl (by (repeat (first|exact zH _|apply zT));done) rfl)) ?_ | refine fj_val rfl rfl rfl (wn0 rfl) (fun R1 hR1 G => (y_load_slc ⟨Try.isAgg35, Try.sizeOf35⟩ rfl (by (repeat (first|exact zH _|apply zT));done) rfl)) ?_
    refine fj_val rfl rfl rfl (wn0 rfl) (fun R1 hR1 G => (y_fieldAddr (k := 1) Try.underlying81 rfl (n := 1) (by decide) Try.sizeOf45 rfl)) ?_
    first | refine fj_val rfl rfl rfl (wn0 rfl) (fun R1 hR1 G => (y_load ⟨Try.isAgg45, Try.sizeOf45⟩ rfl (by (repeat (first|exact zH _|apply zT));done) rfl)) ?_ | refine fj_val rfl rfl rfl (wn0 rfl) (fun R1 hR1 G => (y_load_slc ⟨Try.isAgg45, Try.sizeOf45⟩ rfl (by (repeat (first|exact zH _|apply zT));done) rfl)) ?_
    refine fj_val rfl rfl rfl (wn0 rfl) (fun R1 hR1 G => (y_move rfl)) ?_
    refine fj_val rfl rfl rfl (wn0 rfl) (fun R1 hR1 G => (y_move rfl)) ?_
    first | refine fj_val rfl rfl rfl (wn0 rfl) (fun R1 hR1 G => (y_add64 rfl rfl (by (first | omega | (dsimp only; omega) | (simp; done) | (simp; omega))))) ?_ | refine fj_val rfl rfl rfl (wn0 rfl) (fun R1 hR1 G => (y_add rfl rfl)) ?_
    refine fj_val rfl rfl rfl (wn0 rfl) (fun R1 hR1 G => (y_slice_sl (l := i) (h := i + 1) Try.underlying45 Try.sizeOf43 rfl ⟨.i64, rfl⟩ ⟨.i64, rfl⟩ (by omega))) ?_
    refine fj_val rfl rfl rfl (wn0 rfl) (fun R1 hR1 G => (y_build (cells := [_, _]) [(0, 1), (1, 1)] Try.underlying81 Try.zeroValue81 (fun _ => rfl) rfl rfl)) ?_
    refine fj_val rfl rfl rfl (wn0 rfl) (fun R1 hR1 G => (y_fieldAddr (k := 5) Try.underlying29 rfl (n := 1) (by decide) Try.sizeOf27 rfl)) ?_
    first | refine fj_val rfl rfl rfl (wn0 rfl) (fun R1 hR1 G => (y_load ⟨Try.isAgg27, Try.sizeOf27⟩ rfl (by (repeat (first|exact zH _|apply zT));done) rfl)) ?_ | refine fj_val rfl rfl rfl (wn0 rfl) (fun R1 hR1 G => (y_load_slc ⟨Try.isAgg27, Try.sizeOf27⟩ rfl (by (repeat (first|exact zH _|apply zT));done) rfl)) ?_
    first | refine fj_val rfl rfl rfl (wn0 rfl) (fun R1 hR1 G => (y_indexAddr Try.underlying27 Try.sizeOf29 rfl rfl (by (first | omega | (dsimp only; omega) | (simp; done) | (simp; omega))))) ?_ | refine fj_val rfl rfl rfl (wn0 rfl) (fun R1 hR1 G => (y_index_slc Try.underlying27 Try.sizeOf29 rfl rfl (by (repeat (first|exact zH _|apply zT));done) (by (first | omega | (dsimp only; omega) | (simp; done) | (simp; omega))))) ?_
    refine fj_val rfl rfl rfl (wn0 rfl) (fun R1 hR1 G => (y_loads_ro ⟨Try.isAgg29, Try.sizeOf29⟩ (vs := cs0) hcl0 rfl (fun j u hj => cell_mono hR1 (hcell0 j u hj)))) ?_
    refine fj_nil ?_
    refine xs_all [13, 14] (by kernel_rfl) ⟨?_, ?_, trivial⟩
    ·refine yj_rj rfl ?_
     try simp only [List.cons_append, List.nil_append, List.append_nil]
     refine rj_callp (wn0 rfl) rfl Try.call42 rfl (hcall k cs0 row _ (by simp) hrep hrm hsub) (by (repeat (first|exact zN _|(apply zS;focus (repeat (first|exact zH _|apply zT)))))) (fun e hpe => ?_) (fun u7_13 hu7_13 => ?_)
     · refine ej_panX ?_; refine hpan _ _ _ _ ?_; refine ej_pan _ ([]) (by first | exact Hp.le_refl _ | assumption | exact Hp.le_trans ‹_› ‹_›) rfl (by (repeat (first|exact zR _|(apply zP;focus (repeat (first|exact zH _|apply zT)))|apply zD|exact zA _ _))) ?_; exact ⟨⟨e, by rw [← hres, foldE_err hfold hx (.inl (resV_err hpe))]; rfl, rfl⟩, rfl⟩
     obtain ⟨v, hv, rfl⟩ := resV_ok hu7_13
     have hsv := (hsnd k (by simp) row hrm v hv).1
     refine rj_yk (by (first | exact Hp.le_refl _ | assumption | exact Hp.le_trans ‹_› ‹_›)) (by (repeat (first|exact zR _|(apply zP;focus (repeat (first|exact zH _|apply zT)))|apply zD|exact zA _ _))) ?_
     refine xs_all [14] (by kernel_rfl) ⟨?_, trivial⟩
     refine yj_rj rfl ?_
     try simp only [List.cons_append, List.nil_append, List.append_nil]
     refine rj_alloc (wn0 rfl) rfl Try.zeroValue26 rfl (fun b7 => ?_)
     refine rj_yk (by (first | exact Hp.le_refl _ | assumption | exact Hp.le_trans ‹_› ‹_›)) (by (repeat (first|exact zR _|(apply zP;focus (repeat (first|exact zH _|apply zT)))|apply zD|exact zA _ _))) ?_
     refine xs_nil ?_
     try simp only [List.cons_append, List.nil_append, List.append_nil]
     refine rj_stores_all (vs := valC v) ⟨Try.isAgg26, Try.sizeOf26⟩ rfl (wn0 rfl) rfl rfl (valE.one (R := R) (x := v) rfl) (by (repeat (first|exact zH _|apply zT));done) rfl ?_
     refine rj_nil ?_
     refine hK14 _ _ _ ?_
     refine cj_env (eL 2 rfl (eL 3 rfl (eL 4 rfl (eL 5 rfl (eL 7 rfl (eL 17 rfl (eL 18 rfl eN))))))) ?_
     refine cj_block ?_
     refine cj_seq (fun K15 hK15 => ?_)
     refine cj_region ?_
     refine rv0 rfl rfl rfl (y_fieldAddr (k := 0) Try.underlying26 rfl (n := 1) (by decide) Try.sizeOf3 rfl) ?_
     first | refine rv0 rfl rfl rfl (y_load ⟨Try.isAgg3, Try.sizeOf3⟩ rfl (by (repeat (first|exact zH _|apply zT));done) rfl) ?_ | refine rv0 rfl rfl rfl (y_load_slc ⟨Try.isAgg3, Try.sizeOf3⟩ rfl (by (repeat (first|exact zH _|apply zT));done) rfl) ?_
     refine rv0 rfl rfl rfl (y_eql rfl rfl) ?_
     refine rv0 rfl rfl rfl (y_assign rfl) ?_
     refine rj_nil ?_
     refine hK15 _ _ _ ?_
     refine cj_env (eL 2 rfl (eL 3 rfl (eL 4 rfl (eL 5 rfl (eL 7 rfl (eL 17 rfl (eL 18 rfl (eL 35 rfl eN)))))))) ?_
     refine cj_cond rfl (fun hc35 => ?_) (fun hc35 => ?_)
     ·have hvk : v.kind = 0 := by simpa using hc35
      refine cj_skip ?_
      refine ej_join hJ15 (out) (foldE_snoc hfold hx hv (by unfold gstep; rw [if_pos hvk])) (eC rfl (eC rfl (eC rfl (eC rfl (eC rfl (eC rfl eN)))))) rfl (by (repeat (first|exact zR _|(apply zP;focus (repeat (first|exact zH _|apply zT)))|apply zD|exact zA _ _)))
     ·have hvk : ¬ v.kind = 0 := by simpa using hc35
      refine cj_seq (fun K17 hK17 => ?_)
      refine cj_region ?_
      refine rv0 rfl rfl rfl (y_fieldAddr (k := 0) Try.underlying26 rfl (n := 1) (by decide) Try.sizeOf3 rfl) ?_
      first | refine rv0 rfl rfl rfl (y_load ⟨Try.isAgg3, Try.sizeOf3⟩ rfl (by (repeat (first|exact zH _|apply zT));done) rfl) ?_ | refine rv0 rfl rfl rfl (y_load_slc ⟨Try.isAgg3, Try.sizeOf3⟩ rfl (by (repeat (first|exact zH _|apply zT));done) rfl) ?_
      refine rv0 rfl rfl rfl (y_eql rfl rfl) ?_
      refine rv0 rfl rfl rfl (y_assign rfl) ?_
      refine rj_nil ?_
      refine hK17 _ _ _ ?_
      refine cj_env (eL 2 rfl (eL 3 rfl (eL 4 rfl (eL 5 rfl (eL 7 rfl (eL 17 rfl (eL 18 rfl (eL 39 rfl eN)))))))) ?_
      refine cj_cond rfl (fun hc39 => ?_) (fun hc39 => ?_)
      ·have hok2 : out.kind = 0 := by simpa using hc39
       refine cj_region ?_
       refine rv0 rfl rfl rfl ((y_loads_all (vs := valC v) ⟨Try.isAgg26, Try.sizeOf26⟩ rfl rfl (by (repeat (first|exact zH _|apply zT));done))) ?_
       refine rj_stores_all (vs := valC v) ⟨Try.isAgg26, Try.sizeOf26⟩ rfl (wn0 rfl) rfl rfl (valE.one (R := R) (x := v) rfl) (by (repeat (first|exact zH _|apply zT));done) rfl ?_
       refine rj_nil ?_
       refine ej_join hJ15 (v) (foldE_snoc hfold hx hv (by unfold gstep; rw [if_neg hvk, if_pos hok2])) (eC rfl (eC rfl (eC rfl (eC rfl (eC rfl (eC rfl eN)))))) rfl (by (repeat (first|exact zR _|(apply zP;focus (repeat (first|exact zH _|apply zT)))|apply zD|exact zA _ _)))
      ·have hok2 : ¬ out.kind = 0 := by simpa using hc39
       refine cj_seq (fun K19 hK19 => ?_)
       refine cj_region ?_
       refine rv0 rfl rfl rfl (y_fieldAddr (k := 0) Try.underlying29 rfl (n := 1) (by decide) Try.sizeOf9 rfl) ?_
       first | refine rv0 rfl rfl rfl (y_load ⟨Try.isAgg9, Try.sizeOf9⟩ rfl (by (repeat (first|exact zH _|apply zT));done) rfl) ?_ | refine rv0 rfl rfl rfl (y_load_slc ⟨Try.isAgg9, Try.sizeOf9⟩ rfl (by (repeat (first|exact zH _|apply zT));done) rfl) ?_
       refine rv0 rfl rfl rfl (y_seql rfl rfl) ?_
       refine rv0 rfl rfl rfl (y_assign rfl) ?_
       refine rj_nil ?_
       refine hK19 _ _ _ ?_
       refine cj_env (eL 2 rfl (eL 3 rfl (eL 4 rfl (eL 5 rfl (eL 7 rfl (eL 17 rfl (eL 18 rfl (eL 44 rfl eN)))))))) ?_
       refine cj_cond rfl (fun hc44 => ?_) (fun hc44 => ?_)
       ·have hsum : op = .sum := dsum.1 (by simpa using hc44)
        refine cj_region ?_
        refine rv0 rfl rfl rfl (y_fieldAddr (k := 1) Try.underlying26 rfl (n := 1) (by decide) Try.sizeOf2 rfl) ?_
        first | refine rv0 rfl rfl rfl (y_load ⟨Try.isAgg2, Try.sizeOf2⟩ rfl (by (repeat (first|exact zH _|apply zT));done) rfl) ?_ | refine rv0 rfl rfl rfl (y_load_slc ⟨Try.isAgg2, Try.sizeOf2⟩ rfl (by (repeat (first|exact zH _|apply zT));done) rfl) ?_
        refine rv0 rfl rfl rfl (y_fieldAddr (k := 1) Try.underlying26 rfl (n := 1) (by decide) Try.sizeOf2 rfl) ?_
        first | refine rv0 rfl rfl rfl (y_load ⟨Try.isAgg2, Try.sizeOf2⟩ rfl (by (repeat (first|exact zH _|apply zT));done) rfl) ?_ | refine rv0 rfl rfl rfl (y_load_slc ⟨Try.isAgg2, Try.sizeOf2⟩ rfl (by (repeat (first|exact zH _|apply zT));done) rfl) ?_
        refine rj_callp (wn0 rfl) rfl Try.call80 rfl (plus_p _ _ hso.2 hsv.2) (by (repeat (first|exact zN _|(apply zS;focus (repeat (first|exact zH _|apply zT)))))) (fun e hpe => ?_) (fun u12_4 hu12_4 => ?_)
        · refine hpan _ _ _ _ ?_; refine ej_pan _ ([]) (by first | exact Hp.le_refl _ | assumption | exact Hp.le_trans ‹_› ‹_›) rfl (by (repeat (first|exact zR _|(apply zP;focus (repeat (first|exact zH _|apply zT)))|apply zD|exact zA _ _))) ?_; exact ⟨⟨e, by rw [← hres, foldE_err hfold hx (.inr ⟨v, hv, by unfold gstep; rw [if_neg hvk, if_neg hok2, if_pos hsum, intV_err hpe]⟩)]; rfl, rfl⟩, rfl⟩
        obtain ⟨n12, hn12, rfl⟩ := intV_ok hu12_4
        refine rv0 rfl rfl rfl (y_fieldAddr (k := 1) Try.underlying26 rfl (n := 1) (by decide) Try.sizeOf2 rfl) ?_
        refine rj_store ⟨Try.isAgg2, Try.sizeOf2⟩ (wn0 rfl) rfl rfl (by (first | rfl | assumption | (apply cutV_one; assumption))) (by (repeat (first|exact zH _|apply zT));done) rfl rfl ?_
        refine rj_nil ?_
        refine ej_join hJ15 (⟨out.kind, n12, out.s⟩) (foldE_snoc hfold hx hv (by unfold gstep; rw [if_neg hvk, if_neg hok2, if_pos hsum, hn12])) (eC rfl (eC rfl (eC rfl (eC rfl (eC rfl (eC rfl eN)))))) rfl (by (repeat (first|exact zR _|(apply zP;focus (repeat (first|exact zH _|apply zT)))|apply zD|exact zA _ _)))
       ·have hsum : ¬ op = .sum := fun h => by have := dsum.2 h; simp [this] at hc44
        refine cj_seq (fun K21 hK21 => ?_)
        refine cj_draw (by kernel_rfl) (by kernel_rfl) ?_
        refine qj_val (wn0 rfl) rfl rfl ((y_loads_all (vs := valC v) ⟨Try.isAgg26, Try.sizeOf26⟩ rfl rfl (by (repeat (first|exact zH _|apply zT));done))) ?_
        refine qj_val (wn0 rfl) rfl rfl ((y_loads_all (vs := valC out) ⟨Try.isAgg26, Try.sizeOf26⟩ rfl rfl (by (repeat (first|exact zH _|apply zT));done))) ?_
        refine qj_val (wn0 rfl) rfl rfl (y_call Try.call24 rfl (compare_q v out) (by (repeat (first|exact zN _|(apply zS;focus (repeat (first|exact zH _|apply zT))))))) ?_
        refine qj_val (wn0 rfl) rfl rfl (y_lss rfl rfl) ?_
        refine qj_val (wn0 rfl) rfl rfl (y_fieldAddr (k := 0) Try.underlying29 rfl (n := 1) (by decide) Try.sizeOf9 rfl) ?_
        first | refine qj_val (wn0 rfl) rfl rfl (y_load ⟨Try.isAgg9, Try.sizeOf9⟩ rfl (by (repeat (first|exact zH _|apply zT));done) rfl) ?_ | refine qj_val (wn0 rfl) rfl rfl (y_load_slc ⟨Try.isAgg9, Try.sizeOf9⟩ rfl (by (repeat (first|exact zH _|apply zT));done) rfl) ?_
        refine qj_val (wn0 rfl) rfl rfl (y_seql rfl rfl) ?_
        refine qj_val (wn0 rfl) rfl rfl (y_beql Try.underlying4 rfl rfl) ?_
        refine qj_val (wn0 rfl) rfl rfl (y_assign rfl) ?_
        refine qj_nil ?_
        refine hK21 _ _ _ ?_
        refine cj_env (eL 2 rfl (eL 3 rfl (eL 4 rfl (eL 5 rfl (eL 7 rfl (eL 17 rfl (eL 18 rfl (eL 54 rfl eN)))))))) ?_
        refine cj_cond rfl (fun hc54 => ?_) (fun hc54 => ?_)
        ·have hcm2 : decide (cmpV v out < 0) = decide (op = .min) := by rw [← dmin]; simpa using hc54
         refine cj_region ?_
         refine rv0 rfl rfl rfl ((y_loads_all (vs := valC v) ⟨Try.isAgg26, Try.sizeOf26⟩ rfl rfl (by (repeat (first|exact zH _|apply zT));done))) ?_
         refine rj_stores_all (vs := valC v) ⟨Try.isAgg26, Try.sizeOf26⟩ rfl (wn0 rfl) rfl rfl (valE.one (R := R) (x := v) rfl) (by (repeat (first|exact zH _|apply zT));done) rfl ?_
         refine rj_nil ?_
         refine ej_join hJ15 (v) (foldE_snoc hfold hx hv (by unfold gstep; rw [if_neg hvk, if_neg hok2, if_neg hsum, if_pos hcm2])) (eC rfl (eC rfl (eC rfl (eC rfl (eC rfl (eC rfl eN)))))) rfl (by (repeat (first|exact zR _|(apply zP;focus (repeat (first|exact zH _|apply zT)))|apply zD|exact zA _ _)))
        ·have hcm2 : ¬ decide (cmpV v out < 0) = decide (op = .min) := by rw [← dmin]; simpa using hc54
         refine cj_skip ?_
         refine ej_join hJ15 (out) (foldE_snoc hfold hx hv (by unfold gstep; rw [if_neg hvk, if_neg hok2, if_neg hsum, if_neg hcm2])) (eC rfl (eC rfl (eC rfl (eC rfl (eC rfl (eC rfl eN)))))) rfl (by (repeat (first|exact zR _|(apply zP;focus (repeat (first|exact zH _|apply zT)))|apply zD|exact zA _ _)))
    ·refine yj_rj rfl ?_
     try simp only [List.cons_append, List.nil_append, List.append_nil]
     refine rj_alloc (wn0 rfl) rfl Try.zeroValue26 rfl (fun b7 => ?_)
     refine rj_yk (by (first | exact Hp.le_refl _ | assumption | exact Hp.le_trans ‹_› ‹_›)) (by (repeat (first|exact zR _|(apply zP;focus (repeat (first|exact zH _|apply zT)))|apply zD|exact zA _ _))) ?_
     refine xs_all [13] (by kernel_rfl) ⟨?_, trivial⟩
     refine yj_rj rfl ?_
     try simp only [List.cons_append, List.nil_append, List.append_nil]
     refine rj_callp (wn0 rfl) rfl Try.call42 rfl (hcall k cs0 row _ (by simp) hrep hrm hsub) (by (repeat (first|exact zN _|(apply zS;focus (repeat (first|exact zH _|apply zT)))))) (fun e hpe => ?_) (fun u7_13 hu7_13 => ?_)
     · refine ej_panX ?_; refine hpan _ _ _ _ ?_; refine ej_pan _ ([]) (by first | exact Hp.le_refl _ | assumption | exact Hp.le_trans ‹_› ‹_›) rfl (by (repeat (first|exact zR _|(apply zP;focus (repeat (first|exact zH _|apply zT)))|apply zD|exact zA _ _))) ?_; exact ⟨⟨e, by rw [← hres, foldE_err hfold hx (.inl (resV_err hpe))]; rfl, rfl⟩, rfl⟩
     obtain ⟨v, hv, rfl⟩ := resV_ok hu7_13
     have hsv := (hsnd k (by simp) row hrm v hv).1
     refine rj_yk (by (first | exact Hp.le_refl _ | assumption | exact Hp.le_trans ‹_› ‹_›)) (by (repeat (first|exact zR _|(apply zP;focus (repeat (first|exact zH _|apply zT)))|apply zD|exact zA _ _))) ?_
     refine xs_nil ?_
     try simp only [List.cons_append, List.nil_append, List.append_nil]
     refine rj_stores_all (vs := valC v) ⟨Try.isAgg26, Try.sizeOf26⟩ rfl (wn0 rfl) rfl rfl (valE.one (R := R) (x := v) rfl) (by (repeat (first|exact zH _|apply zT));done) rfl ?_
     refine rj_nil ?_
     refine hK14 _ _ _ ?_
     refine cj_env (eL 2 rfl (eL 3 rfl (eL 4 rfl (eL 5 rfl (eL 7 rfl (eL 17 rfl (eL 18 rfl eN))))))) ?_
     refine cj_block ?_
     refine cj_seq (fun K23 hK23 => ?_)
     refine cj_region ?_
     refine rv0 rfl rfl rfl (y_fieldAddr (k := 0) Try.underlying26 rfl (n := 1) (by decide) Try.sizeOf3 rfl) ?_
     first | refine rv0 rfl rfl rfl (y_load ⟨Try.isAgg3, Try.sizeOf3⟩ rfl (by (repeat (first|exact zH _|apply zT));done) rfl) ?_ | refine rv0 rfl rfl rfl (y_load_slc ⟨Try.isAgg3, Try.sizeOf3⟩ rfl (by (repeat (first|exact zH _|apply zT));done) rfl) ?_
     refine rv0 rfl rfl rfl (y_eql rfl rfl) ?_
     refine rv0 rfl rfl rfl (y_assign rfl) ?_
     refine rj_nil ?_
     refine hK23 _ _ _ ?_
     refine cj_env (eL 2 rfl (eL 3 rfl (eL 4 rfl (eL 5 rfl (eL 7 rfl (eL 17 rfl (eL 18 rfl (eL 35 rfl eN)))))))) ?_
     refine cj_cond rfl (fun hc35 => ?_) (fun hc35 => ?_)
     ·have hvk : v.kind = 0 := by simpa using hc35
      refine cj_skip ?_
      refine ej_join hJ15 (out) (foldE_snoc hfold hx hv (by unfold gstep; rw [if_pos hvk])) (eC rfl (eC rfl (eC rfl (eC rfl (eC rfl (eC rfl eN)))))) rfl (by (repeat (first|exact zR _|(apply zP;focus (repeat (first|exact zH _|apply zT)))|apply zD|exact zA _ _)))
     ·have hvk : ¬ v.kind = 0 := by simpa using hc35
      refine cj_seq (fun K25 hK25 => ?_)
      refine cj_region ?_
      refine rv0 rfl rfl rfl (y_fieldAddr (k := 0) Try.underlying26 rfl (n := 1) (by decide) Try.sizeOf3 rfl) ?_
      first | refine rv0 rfl rfl rfl (y_load ⟨Try.isAgg3, Try.sizeOf3⟩ rfl (by (repeat (first|exact zH _|apply zT));done) rfl) ?_ | refine rv0 rfl rfl rfl (y_load_slc ⟨Try.isAgg3, Try.sizeOf3⟩ rfl (by (repeat (first|exact zH _|apply zT));done) rfl) ?_
      refine rv0 rfl rfl rfl (y_eql rfl rfl) ?_
      refine rv0 rfl rfl rfl (y_assign rfl) ?_
      refine rj_nil ?_
      refine hK25 _ _ _ ?_
      refine cj_env (eL 2 rfl (eL 3 rfl (eL 4 rfl (eL 5 rfl (eL 7 rfl (eL 17 rfl (eL 18 rfl (eL 39 rfl eN)))))))) ?_
      refine cj_cond rfl (fun hc39 => ?_) (fun hc39 => ?_)
      ·have hok2 : out.kind = 0 := by simpa using hc39
       refine cj_region ?_
       refine rv0 rfl rfl rfl ((y_loads_all (vs := valC v) ⟨Try.isAgg26, Try.sizeOf26⟩ rfl rfl (by (repeat (first|exact zH _|apply zT));done))) ?_
       refine rj_stores_all (vs := valC v) ⟨Try.isAgg26, Try.sizeOf26⟩ rfl (wn0 rfl) rfl rfl (valE.one (R := R) (x := v) rfl) (by (repeat (first|exact zH _|apply zT));done) rfl ?_
       refine rj_nil ?_
       refine ej_join hJ15 (v) (foldE_snoc hfold hx hv (by unfold gstep; rw [if_neg hvk, if_pos hok2])) (eC rfl (eC rfl (eC rfl (eC rfl (eC rfl (eC rfl eN)))))) rfl (by (repeat (first|exact zR _|(apply zP;focus (repeat (first|exact zH _|apply zT)))|apply zD|exact zA _ _)))
      ·have hok2 : ¬ out.kind = 0 := by simpa using hc39
       refine cj_seq (fun K27 hK27 => ?_)
       refine cj_region ?_
       refine rv0 rfl rfl rfl (y_fieldAddr (k := 0) Try.underlying29 rfl (n := 1) (by decide) Try.sizeOf9 rfl) ?_
       first | refine rv0 rfl rfl rfl (y_load ⟨Try.isAgg9, Try.sizeOf9⟩ rfl (by (repeat (first|exact zH _|apply zT));done) rfl) ?_ | refine rv0 rfl rfl rfl (y_load_slc ⟨Try.isAgg9, Try.sizeOf9⟩ rfl (by (repeat (first|exact zH _|apply zT));done) rfl) ?_
       refine rv0 rfl rfl rfl (y_seql rfl rfl) ?_
       refine rv0 rfl rfl rfl (y_assign rfl) ?_
       refine rj_nil ?_
       refine hK27 _ _ _ ?_
       refine cj_env (eL 2 rfl (eL 3 rfl (eL 4 rfl (eL 5 rfl (eL 7 rfl (eL 17 rfl (eL 18 rfl (eL 44 rfl eN)))))))) ?_
       refine cj_cond rfl (fun hc44 => ?_) (fun hc44 => ?_)
       ·have hsum : op = .sum := dsum.1 (by simpa using hc44)
        refine cj_region ?_
        refine rv0 rfl rfl rfl (y_fieldAddr (k := 1) Try.underlying26 rfl (n := 1) (by decide) Try.sizeOf2 rfl) ?_
        first | refine rv0 rfl rfl rfl (y_load ⟨Try.isAgg2, Try.sizeOf2⟩ rfl (by (repeat (first|exact zH _|apply zT));done) rfl) ?_ | refine rv0 rfl rfl rfl (y_load_slc ⟨Try.isAgg2, Try.sizeOf2⟩ rfl (by (repeat (first|exact zH _|apply zT));done) rfl) ?_
        refine rv0 rfl rfl rfl (y_fieldAddr (k := 1) Try.underlying26 rfl (n := 1) (by decide) Try.sizeOf2 rfl) ?_
        first | refine rv0 rfl rfl rfl (y_load ⟨Try.isAgg2, Try.sizeOf2⟩ rfl (by (repeat (first|exact zH _|apply zT));done) rfl) ?_ | refine rv0 rfl rfl rfl (y_load_slc ⟨Try.isAgg2, Try.sizeOf2⟩ rfl (by (repeat (first|exact zH _|apply zT));done) rfl) ?_
        refine rj_callp (wn0 rfl) rfl Try.call80 rfl (plus_p _ _ hso.2 hsv.2) (by (repeat (first|exact zN _|(apply zS;focus (repeat (first|exact zH _|apply zT)))))) (fun e hpe => ?_) (fun u12_4 hu12_4 => ?_)
        · refine hpan _ _ _ _ ?_; refine ej_pan _ ([]) (by first | exact Hp.le_refl _ | assumption | exact Hp.le_trans ‹_› ‹_›) rfl (by (repeat (first|exact zR _|(apply zP;focus (repeat (first|exact zH _|apply zT)))|apply zD|exact zA _ _))) ?_; exact ⟨⟨e, by rw [← hres, foldE_err hfold hx (.inr ⟨v, hv, by unfold gstep; rw [if_neg hvk, if_neg hok2, if_pos hsum, intV_err hpe]⟩)]; rfl, rfl⟩, rfl⟩
        obtain ⟨n12, hn12, rfl⟩ := intV_ok hu12_4
        refine rv0 rfl rfl rfl (y_fieldAddr (k := 1) Try.underlying26 rfl (n := 1) (by decide) Try.sizeOf2 rfl) ?_
        refine rj_store ⟨Try.isAgg2, Try.sizeOf2⟩ (wn0 rfl) rfl rfl (by (first | rfl | assumption | (apply cutV_one; assumption))) (by (repeat (first|exact zH _|apply zT));done) rfl rfl ?_
        refine rj_nil ?_
        refine ej_join hJ15 (⟨out.kind, n12, out.s⟩) (foldE_snoc hfold hx hv (by unfold gstep; rw [if_neg hvk, if_neg hok2, if_pos hsum, hn12])) (eC rfl (eC rfl (eC rfl (eC rfl (eC rfl (eC rfl eN)))))) rfl (by (repeat (first|exact zR _|(apply zP;focus (repeat (first|exact zH _|apply zT)))|apply zD|exact zA _ _)))
       ·have hsum : ¬ op = .sum := fun h => by have := dsum.2 h; simp [this] at hc44
        refine cj_seq (fun K29 hK29 => ?_)
        refine cj_draw (by kernel_rfl) (by kernel_rfl) ?_
        refine qj_val (wn0 rfl) rfl rfl ((y_loads_all (vs := valC v) ⟨Try.isAgg26, Try.sizeOf26⟩ rfl rfl (by (repeat (first|exact zH _|apply zT));done))) ?_
        refine qj_val (wn0 rfl) rfl rfl ((y_loads_all (vs := valC out) ⟨Try.isAgg26, Try.sizeOf26⟩ rfl rfl (by (repeat (first|exact zH _|apply zT));done))) ?_
        refine qj_val (wn0 rfl) rfl rfl (y_call Try.call24 rfl (compare_q v out) (by (repeat (first|exact zN _|(apply zS;focus (repeat (first|exact zH _|apply zT))))))) ?_
        refine qj_val (wn0 rfl) rfl rfl (y_lss rfl rfl) ?_
        refine qj_val (wn0 rfl) rfl rfl (y_fieldAddr (k := 0) Try.underlying29 rfl (n := 1) (by decide) Try.sizeOf9 rfl) ?_
        first | refine qj_val (wn0 rfl) rfl rfl (y_load ⟨Try.isAgg9, Try.sizeOf9⟩ rfl (by (repeat (first|exact zH _|apply zT));done) rfl) ?_ | refine qj_val (wn0 rfl) rfl rfl (y_load_slc ⟨Try.isAgg9, Try.sizeOf9⟩ rfl (by (repeat (first|exact zH _|apply zT));done) rfl) ?_
        refine qj_val (wn0 rfl) rfl rfl (y_seql rfl rfl) ?_
        refine qj_val (wn0 rfl) rfl rfl (y_beql Try.underlying4 rfl rfl) ?_
        refine qj_val (wn0 rfl) rfl rfl (y_assign rfl) ?_
        refine qj_nil ?_
        refine hK29 _ _ _ ?_
        refine cj_env (eL 2 rfl (eL 3 rfl (eL 4 rfl (eL 5 rfl (eL 7 rfl (eL 17 rfl (eL 18 rfl (eL 54 rfl eN)))))))) ?_
        refine cj_cond rfl (fun hc54 => ?_) (fun hc54 => ?_)
        ·have hcm2 : decide (cmpV v out < 0) = decide (op = .min) := by rw [← dmin]; simpa using hc54
         refine cj_region ?_
         refine rv0 rfl rfl rfl ((y_loads_all (vs := valC v) ⟨Try.isAgg26, Try.sizeOf26⟩ rfl rfl (by (repeat (first|exact zH _|apply zT));done))) ?_
         refine rj_stores_all (vs := valC v) ⟨Try.isAgg26, Try.sizeOf26⟩ rfl (wn0 rfl) rfl rfl (valE.one (R := R) (x := v) rfl) (by (repeat (first|exact zH _|apply zT));done) rfl ?_
         refine rj_nil ?_
         refine ej_join hJ15 (v) (foldE_snoc hfold hx hv (by unfold gstep; rw [if_neg hvk, if_neg hok2, if_neg hsum, if_pos hcm2])) (eC rfl (eC rfl (eC rfl (eC rfl (eC rfl (eC rfl eN)))))) rfl (by (repeat (first|exact zR _|(apply zP;focus (repeat (first|exact zH _|apply zT)))|apply zD|exact zA _ _)))
        ·have hcm2 : ¬ decide (cmpV v out < 0) = decide (op = .min) := by rw [← dmin]; simpa using hc54
         refine cj_skip ?_
         refine ej_join hJ15 (out) (foldE_snoc hfold hx hv (by unfold gstep; rw [if_neg hvk, if_neg hok2, if_neg hsum, if_neg hcm2])) (eC rfl (eC rfl (eC rfl (eC rfl (eC rfl (eC rfl eN)))))) rfl (by (repeat (first|exact zR _|(apply zP;focus (repeat (first|exact zH _|apply zT)))|apply zD|exact zA _ _)))
   ·try simp only [dT, dF, nT, nF, tF, fT] at hc19
    refine cj_exit ?_
    refine hK7 _ _ _ ?_
    refine cj_env (eL 4 rfl (eL 5 rfl eN)) ?_
    refine cj_seq (fun K31 hK31 => ?_)
    refine cj_region ?_
    obtain rfl : i = rows.length := by (try simp at hc19); omega
    rw [List.take_length] at hfold
    refine rv0 rfl rfl rfl ((y_loads_all (vs := valC out) ⟨Try.isAgg26, Try.sizeOf26⟩ rfl rfl (by (repeat (first|exact zH _|apply zT));done))) ?_
    refine rj_stores_all (vs := valC out) ⟨Try.isAgg26, Try.sizeOf26⟩ rfl (wn0 rfl) rfl rfl (valE.one (R := R) (x := out) rfl) (by (repeat (first|exact zH _|apply zT));done) rfl ?_
    refine rj_nil ?_
    refine hK31 _ _ _ ?_
    refine cj_ret ?_
    refine hret _ _ _ ?_
    apply ej_ret Try.results59 (.cons (rv_cells ⟨Try.isAgg26, Try.sizeOf26⟩ rfl (by (repeat (first|exact zH _|apply zT));done) rfl rfl) .nil) _ [] (by (first | exact Hp.le_refl _ | assumption | exact Hp.le_trans ‹_› ‹_›)) rfl
    case hp => exact ⟨by rw [← hres, hfold]; rfl, rfl⟩
    case hS => (repeat (first|exact zR _|(apply zP;focus (repeat (first|exact zH _|apply zT)))|apply zD|exact zA _ _))
end V
end Go.Proofs.Ytghgifgmacapcaa
