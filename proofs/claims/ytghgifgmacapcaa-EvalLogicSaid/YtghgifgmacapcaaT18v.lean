/- What the laws of layer 18 lean on, walked: Cols, Row, few. -/
import Derived.Test.YtghgifgmacapcaaT18u
import Derived.Test.YtghgifgmacapcaaR0
set_option linter.unusedSimpArgs false
set_option linter.unusedVariables false
set_option maxRecDepth 100000
namespace Go.Proofs.Ytghgifgmacapcaa
open Go.RowKit
namespace V
set_option maxHeartbeats 4000000
section
variable {c : Cx} {E : Env} {R : Hp} {L : List Asn} {ty : TypeId} {p : String} {af : Array Edge} {g : Option (Nat × Bool)}
theorem y_index_agg {d : Option Tmp} {x y : Operand} {t e : TypeId} {n sz : Nat} {cells vs : List Value} {ik : IntKind} {i : Int} (hT : c.P.underlying t = some (.array n e)) (hM : Many c.P e sz) (e1 : ev E x = some (.agg ⟨cells⟩)) (e2 : ev E y = some (.int ik i))
    (h : 0 ≤ i ∧ i < n) (hv : (cells.drop (i.toNat * sz)).take sz = vs) (hl : i.toNat * sz + sz ≤ cells.length) : Yld c E R L ⟨d, .index t x y, ty, p, af, g⟩ (.agg ⟨vs⟩) := fun a w hf _ => by
  have r : (Instr.index t (.agg ⟨cells⟩) (.int ik i)).run c.P w = .ok (.agg ⟨vs⟩) w := by
    have e : ((⟨cells⟩ : Array Value).extract (i.toNat * sz) (i.toNat * sz + sz)) = ⟨vs⟩ := by simp [hv]
    simp [Instr.index, run_underlying hT, asIntOf, h, part, hM.1, hM.2, hv]
  simp [execOp, hf.ev e1, hf.ev e2, r, Oper.quietUpon]
end
/-! ### columns -/
def kb (b : Bool) : Int := if b then 2 else 1
def kcols : List Int → List Value
  | [a, b, c] => [.string (str [97]), .int .i64 a, .int .i64 0, .string (str [98]), .int .i64 b, .int .i64 0, .string (str [99]), .int .i64 c, .int .i64 0]
  | _ => []
def colsOf : List Bool → List Cl
  | [a, b, c] => [⟨[97], kb a, 0⟩, ⟨[98], kb b, 0⟩, ⟨[99], kb c, 0⟩]
  | _ => []
theorem three {α : Type} {l : List α} (h : l.length = 3) : ∃ a b c, l = [a, b, c] := by
  match l, h with
  | [a, b, c], _ => exact ⟨a, b, c, rfl⟩
theorem kcols_len {l : List Int} (h : l.length = 3) : (kcols l).length = 9 := by obtain ⟨a, b, c, rfl⟩ := three h; rfl
theorem kcols_set {l : List Int} (h : l.length = 3) {i : Nat} (hi : i < 3) (k : Int) : setNth (kcols l) (i * 3 + 1) (.int .i64 k) = kcols (l.set i k) := by
  obtain ⟨a, b, c, rfl⟩ := three h
  match i, hi with
  | 0, _ => rfl
  | 1, _ => rfl
  | 2, _ => rfl
theorem bools_nth {l : List Bool} {i : Nat} {b : Bool} (h : l[i]? = some b) : nth (l.map Value.bool) i = some (.bool b) := by
  rw [nth_eq]; simp [h]
theorem colsOf_ok {l : List Bool} : ∀ c ∈ colsOf l, kok c.kind := by
  intro c hc
  unfold colsOf at hc
  split at hc
  · simp only [List.mem_cons, List.not_mem_nil, or_false] at hc
    have h : ∀ b, kok (kb b) := fun b => by cases b; exact .inr (.inl rfl); exact .inr (.inr rfl)
    rcases hc with rfl | rfl | rfl <;> exact h _
  · cases hc
theorem kcolsFr {R : Hp} {l : List Bool} (hl : l.length = 3) {ks : List Int} (hk : ks = l.map kb) {v : Value} (h : FrozenS R v 3 (kcols ks)) : FrX colE R (colsOf l) v := by
  obtain ⟨a, b, c, rfl⟩ := three hl
  subst hk
  exact FrozenS.frx (l := colsOf [a, b, c]) (css := [colC ⟨[97], kb a, 0⟩, colC ⟨[98], kb b, 0⟩, colC ⟨[99], kb c, 0⟩]) h ⟨rfl, fun i x cs h1 h2 => by
    match i with
    | 0 => cases h1; cases h2; rfl
    | 1 => cases h1; cases h2; rfl
    | 2 => cases h1; cases h2; rfl
    | i + 3 => simp [colsOf] at h1⟩
theorem take_set3 {l : List Int} {i : Nat} {m : List Int} {k : Int} (h : l.length = 3) (hm : m.length = 3) (hi : i < 3) (hp : l.take i = m.take i) (hk : m[i]? = some k) : (l.set i k).take (i + 1) = m.take (i + 1) := by
  obtain ⟨a, b, c, rfl⟩ := three h
  obtain ⟨a', b', c', rfl⟩ := three hm
  match i, hi with
  | 0, _ => simp at hk ⊢; exact hk.symm
  | 1, _ => simp at hk hp ⊢; exact ⟨hp, hk.symm⟩
  | 2, _ => simp at hk hp ⊢; exact ⟨hp.1, hp.2, hk.symm⟩
theorem cols_t {R : Hp} (l : List Bool) (hl : l.length = 3) : Tri Try.prog 13 [.agg ⟨l.map Value.bool⟩] R [] (fun u R' L' => FrX colE R' (colsOf l) u ∧ L' = []) := by
  refine tri_of Try.func13 rfl Try.ntmps13 rfl (fun σ F Q hret hend hpan => ?_)
  try simp only [List.cons_append, List.nil_append]
  refine cj_env (eL 0 rfl eN) ?_
  refine cj_seq (fun K1 hK1 => ?_)
  refine cj_region ?_
  refine rj_box (wn0 rfl) rfl rfl rfl (fun b1 => ?_)
  refine rv0 rfl rfl rfl (y_assign rfl) ?_
  refine rj_nil ?_
  refine hK1 _ _ _ ?_
  refine cj_seq (fun K2 hK2 => ?_)
  refine cj_region ?_
  refine rv0 rfl rfl rfl (y_build (cells := [_, _, _]) [(0, 1), (1, 1), (2, 1)] Try.underlying66 Try.zeroValue66 (fun _ => rfl) rfl rfl) ?_
  refine rv0 rfl rfl rfl (y_build (cells := [_, _, _]) [(0, 1), (1, 1), (2, 1)] Try.underlying66 Try.zeroValue66 (fun _ => rfl) rfl rfl) ?_
  refine rv0 rfl rfl rfl (y_build (cells := [_, _, _]) [(0, 1), (1, 1), (2, 1)] Try.underlying66 Try.zeroValue66 (fun _ => rfl) rfl rfl) ?_
  refine rj_buildSlice (sz := 3) (wn0 rfl) rfl Try.underlying35 Try.sizeOf66 Try.zeroValue66 rfl rfl rfl (by decide) (by decide) (fun b8 => ?_)
  refine rv0 rfl rfl rfl (y_assign rfl) ?_
  refine rj_nil ?_
  refine hK2 _ _ _ ?_
  refine cj_env (eL 1 rfl (eL 3 rfl eN)) ?_
  refine cj_seq (fun K3 hK3 => ?_)
  refine cj_seq (fun K4 hK4 => ?_)
  refine cj_region ?_
  refine rv0 rfl rfl rfl (y_move rfl) ?_
  first | refine rv0 rfl rfl rfl (y_len_sl Try.underlying35 rfl) ?_ | refine rv0 rfl rfl rfl (y_len_slc Try.underlying35 rfl (by (repeat (first|exact zH _|apply zT));done)) ?_
  refine rv0 rfl rfl rfl (y_move rfl) ?_
  refine rj_nil ?_
  refine hK4 _ _ _ ?_
  refine cj_block ?_
  refine cj_env (E' := (fun (x : Nat × List Int) => [(1, .pointer (some ⟨b1, 0, none⟩)), (3, .slice (some ⟨b8, 0, none⟩) 3 3), (10, .int .i64 3), (11, .int .i64 (x.1 : Int))]) (0, [0, 0, 0])) (eC rfl (eC rfl (eC rfl (eC rfl eN)))) ?_
  refine cj_sub (M := (fun (x : Nat × List Int) => slc 66 3 (.slice (some ⟨b8, 0, none⟩) 3 3) 3 (kcols x.2) :: blk b1 (l.map Value.bool) 23 :: F) (0, [0, 0, 0])) (by (repeat (first|exact zR _|(apply zP;focus (repeat (first|exact zH _|apply zT)))|apply zD|exact zA _ _))) ?_
  refine cj_loop (fun (x : Nat × List Int) => [(1, .pointer (some ⟨b1, 0, none⟩)), (3, .slice (some ⟨b8, 0, none⟩) 3 3), (10, .int .i64 3), (11, .int .i64 (x.1 : Int))]) (fun (x : Nat × List Int) => R) (fun (x : Nat × List Int) => slc 66 3 (.slice (some ⟨b8, 0, none⟩) 3 3) 3 (kcols x.2) :: blk b1 (l.map Value.bool) 23 :: F) (fun (x : Nat × List Int) => x.1 ≤ 3 ∧ x.2.length = 3 ∧ x.2.take x.1 = (l.map kb).take x.1) (fun (x : Nat × List Int) => 3 - x.1) (0, [0, 0, 0]) (⟨by simp, rfl, by simp⟩) ?_
  rintro ⟨i, ks⟩ ⟨hi, hkl, hks⟩
  try dsimp only
  dsimp only at hi hkl hks
  refine cj_seq (fun K5 hK5 => ?_)
  refine cj_region ?_
  refine rv0 rfl rfl rfl (y_lss rfl rfl) ?_
  refine rj_nil ?_
  refine hK5 _ _ _ ?_
  refine cj_seq (fun K6 hK6 => ?_)
  refine cj_cond rfl (fun hc12 => ?_) (fun hc12 => ?_)
  ·try simp only [dT, dF, nT, nF, tF, fT] at hc12
   refine cj_skip ?_
   refine hK6 _ _ _ ?_
   refine cj_seq (fun K8 hK8 => ?_)
   refine cj_block ?_
   refine cj_seq (fun K9 hK9 => ?_)
   refine cj_region ?_
   have hi2 : i < 3 := by (try simp at hc12); omega
   obtain ⟨b, hb⟩ : ∃ b, l[i]? = some b := ⟨l[i]'(by omega), by simp⟩
   refine rv0 rfl rfl rfl (y_move rfl) ?_
   refine rv0 rfl rfl rfl (y_assign rfl) ?_
   refine rj_nil ?_
   refine hK9 _ _ _ ?_
   refine cj_seq (fun K10 hK10 => ?_)
   refine cj_region ?_
   refine rv0 rfl rfl rfl (y_move rfl) ?_
   refine rv0 rfl rfl rfl (y_move rfl) ?_
   refine rv0 rfl rfl rfl ((y_index_slc Try.underlying35 Try.sizeOf66 rfl rfl (by (repeat (first|exact zH _|apply zT));done) (by omega))) ?_
   refine rv0 rfl rfl rfl ((y_fieldAddr_slc (j := (i : Int).toNat * 3) Try.underlying66 rfl (m := 1) (by decide) Try.sizeOf3 rfl (by (repeat (first|exact zH _|apply zT));done) (by decide))) ?_
   refine rj_store_slc (j := (i : Int).toNat * 3 + 1) ⟨Try.isAgg3, Try.sizeOf3⟩ (wn0 rfl) rfl rfl rfl (by (repeat (first|exact zH _|apply zT));done) (by rw [kcols_len hkl]; omega) (kcols_set hkl hi2 1) (by decide) ?_
   refine rj_nil ?_
   refine hK10 _ _ _ ?_
   refine cj_env (eL 1 rfl (eL 3 rfl (eL 4 rfl (eL 10 rfl (eL 11 rfl eN))))) ?_
   refine cj_seq (fun K11 hK11 => ?_)
   refine cj_region ?_
   refine rv0 rfl rfl rfl (y_move rfl) ?_
   refine rv0 rfl rfl rfl ((y_indexAddr_arr Try.underlying23 Try.sizeOf4 rfl rfl (by omega))) ?_
   refine rv0 rfl rfl rfl ((y_load ⟨Try.isAgg4, Try.sizeOf4⟩ rfl (by (repeat (first|exact zH _|apply zT));done) (bools_nth (by simpa using hb)))) ?_
   refine rj_nil ?_
   refine hK11 _ _ _ ?_
   refine cj_cond rfl (fun hc20 => ?_) (fun hc20 => ?_)
   ·try simp only [dT, dF, nT, nF, tF, fT] at hc20
    refine cj_region ?_
    refine rv0 rfl rfl rfl (y_move rfl) ?_
    refine rv0 rfl rfl rfl (y_move rfl) ?_
    refine rv0 rfl rfl rfl ((y_index_slc Try.underlying35 Try.sizeOf66 rfl rfl (by (repeat (first|exact zH _|apply zT));done) (by omega))) ?_
    refine rv0 rfl rfl rfl ((y_fieldAddr_slc (j := (i : Int).toNat * 3) Try.underlying66 rfl (m := 1) (by decide) Try.sizeOf3 rfl (by (repeat (first|exact zH _|apply zT));done) (by decide))) ?_
    refine rj_store_slc (j := (i : Int).toNat * 3 + 1) ⟨Try.isAgg3, Try.sizeOf3⟩ (wn0 rfl) rfl rfl rfl (by (repeat (first|exact zH _|apply zT));done) (by rw [kcols_len (by simp [hkl])]; omega) (kcols_set (by simp [hkl]) hi2 2) (by decide) ?_
    refine rj_nil ?_
    refine hK8 _ _ _ ?_
    refine cj_env (eL 1 rfl (eL 3 rfl (eL 10 rfl (eL 11 rfl eN)))) ?_
    refine cj_region ?_
    first | refine rv0 rfl rfl rfl (y_add64 rfl rfl (by (first | omega | (dsimp only; omega) | (simp; done) | (simp; omega)))) ?_ | refine rv0 rfl rfl rfl (y_add rfl rfl) ?_
    refine rv0 rfl rfl rfl (y_move rfl) ?_
    refine rj_nil ?_
    refine ej_on (q' := roundK _ _ _ _ _ _ _) rfl ?_
    refine ej_round ((i + 1, (ks.set i 1).set i 2)) (⟨by dsimp only; omega, by simp [hkl], take_set3 (by simp [hkl]) (by simp [hl]) hi2 (by rw [List.take_set_of_le (Nat.le_refl _)]; exact hks) (by rw [List.getElem?_map, hb]; simp [kb, hc20])⟩) (by dsimp only; omega) (eC rfl (eC rfl (eC rfl (eC rfl eN)))) rfl (by (repeat (first|exact zR _|(apply zP;focus (repeat (first|exact zH _|apply zT)))|apply zD|exact zA _ _)))
   ·try simp only [dT, dF, nT, nF, tF, fT] at hc20
    refine cj_skip ?_
    refine hK8 _ _ _ ?_
    refine cj_env (eL 1 rfl (eL 3 rfl (eL 10 rfl (eL 11 rfl eN)))) ?_
    refine cj_region ?_
    first | refine rv0 rfl rfl rfl (y_add64 rfl rfl (by (first | omega | (dsimp only; omega) | (simp; done) | (simp; omega)))) ?_ | refine rv0 rfl rfl rfl (y_add rfl rfl) ?_
    refine rv0 rfl rfl rfl (y_move rfl) ?_
    refine rj_nil ?_
    refine ej_on (q' := roundK _ _ _ _ _ _ _) rfl ?_
    refine ej_round ((i + 1, ks.set i 1)) (⟨by dsimp only; omega, by simp [hkl], take_set3 hkl (by simp [hl]) hi2 hks (by rw [List.getElem?_map, hb]; simp [kb, hc20])⟩) (by dsimp only; omega) (eC rfl (eC rfl (eC rfl (eC rfl eN)))) rfl (by (repeat (first|exact zR _|(apply zP;focus (repeat (first|exact zH _|apply zT)))|apply zD|exact zA _ _)))
  ·try simp only [dT, dF, nT, nF, tF, fT] at hc12
   refine cj_exit ?_
   refine hK3 _ _ _ ?_
   refine cj_env (eL 3 rfl eN) ?_
   refine cj_seq (fun K13 hK13 => ?_)
   refine cj_region ?_
   obtain rfl : i = 3 := by (try simp at hc12); omega
   rw [List.take_of_length_le (by omega), List.take_of_length_le (by simp; omega)] at hks
   refine rj_freeze (e := 66) (sz := 3) (n := 3) (xs := kcols ks) (by (repeat (first|exact zH _|apply zT));done) (fun R2 hR2 hfr1 hxl1 => ?_)
   refine rv0 rfl rfl rfl (y_move rfl) ?_
   refine rv0 rfl rfl rfl (y_assign rfl) ?_
   refine rj_nil ?_
   refine hK13 _ _ _ ?_
   refine cj_ret ?_
   refine hret _ _ _ ?_
   apply ej_ret Try.results13 (.cons (rv_tmp rfl) .nil) _ [] hR2 rfl
   case hp => exact ⟨kcolsFr hl hks hfr1, rfl⟩
   case hS => (repeat (first|exact zR _|(apply zP;focus (repeat (first|exact zH _|apply zT)))|apply zD|exact zA _ _))
/-! ### rows -/
def valsC (l : List Vl) : List Value := (l.map valC).flatten
def rowV : List Cl → List Vl → List Vl
  | c :: cs, v :: vs => (if isV v = true ∧ v.kind = c.kind then v else Vl.zero) :: rowV cs vs
  | _, _ => []
def fewB (l : List Vl) : Bool := l.all (fun v => decide (v.s.length ≤ 300))
theorem valsC_at {l : List Vl} {i : Nat} {v : Vl} (h : l[i]? = some v) : ((valsC l).drop (i * 3)).take 3 = valC v := by
  refine fpart (n := 3) (fun c hc => ?_) (by rw [List.getElem?_map, h]; rfl)
  obtain ⟨x, _, rfl⟩ := List.mem_map.1 hc
  rfl
theorem valsC_nth {l : List Vl} {i j : Nat} {v : Vl} {u : Value} (h : l[i]? = some v) (hu : (valC v)[j]? = some u) : nth (valsC l) (i * 3 + j) = some u := by
  rw [nth_eq]
  refine fget (n := 3) (fun c hc => ?_) (by rw [List.getElem?_map, h]; rfl) hu
  obtain ⟨x, _, rfl⟩ := List.mem_map.1 hc
  rfl
theorem valsC_len (l : List Vl) : (valsC l).length = l.length * 3 := by
  have := flen (n := 3) (css := l.map valC) (fun c hc => by obtain ⟨x, _, rfl⟩ := List.mem_map.1 hc; rfl)
  simpa [valsC] using this
theorem few_q {R : Hp} (l : List Vl) (hl : l.length = 3) : QTri Try.prog 17 [.agg ⟨valsC l⟩] R [] (.bool (fewB l)) := by
  obtain ⟨v0, v1, v2, rfl⟩ := three hl
  refine Tri.q2 ?_
  refine tri_of Try.func17 rfl Try.ntmps17 rfl (fun σ F Q hret hend hpan => ?_)
  try simp only [List.cons_append, List.nil_append]
  refine cj_env (eL 0 rfl eN) ?_
  refine cj_seq (fun K1 hK1 => ?_)
  refine cj_region ?_
  refine rj_box (wn0 rfl) rfl rfl rfl (fun b1 => ?_)
  refine rv0 rfl rfl rfl (y_assign rfl) ?_
  refine rj_nil ?_
  refine hK1 _ _ _ ?_
  refine cj_seq (fun K2 hK2 => ?_)
  refine cj_region ?_
  refine rv0 rfl rfl rfl ((y_indexAddr_arr Try.underlying41 Try.sizeOf26 rfl rfl (by decide))) ?_
  refine rv0 rfl rfl rfl (y_fieldAddr (k := 2) Try.underlying26 rfl (n := 1) (by decide) Try.sizeOf9 rfl) ?_
  refine rv0 rfl rfl rfl ((y_load ⟨Try.isAgg9, Try.sizeOf9⟩ rfl (by (repeat (first|exact zH _|apply zT));done) (valsC_nth (l := [v0, v1, v2]) (i := 0) (j := 2) (u := .string (str v0.s)) rfl rfl))) ?_
  refine rv0 rfl rfl rfl (y_slen Try.underlying9 rfl) ?_
  refine rv0 rfl rfl rfl (y_leq rfl rfl) ?_
  refine rv0 rfl rfl rfl (y_move rfl) ?_
  refine rj_part 8 rfl (fun hg8 => ?_) (fun hg8 => ?_)
  ·try simp only [dT, dF, nT, nF, tF, fT] at hg8
   refine rj_val (wn1 rfl rfl rfl rfl) rfl rfl ((y_indexAddr_arr Try.underlying41 Try.sizeOf26 rfl rfl (by decide))) ?_
   refine rj_val (wn1 rfl rfl rfl rfl) rfl rfl (y_fieldAddr (k := 2) Try.underlying26 rfl (n := 1) (by decide) Try.sizeOf9 rfl) ?_
   refine rj_val (wn1 rfl rfl rfl rfl) rfl rfl ((y_load ⟨Try.isAgg9, Try.sizeOf9⟩ rfl (by (repeat (first|exact zH _|apply zT));done) (valsC_nth (l := [v0, v1, v2]) (i := 1) (j := 2) (u := .string (str v1.s)) rfl rfl))) ?_
   refine rj_val (wn1 rfl rfl rfl rfl) rfl rfl (y_slen Try.underlying9 rfl) ?_
   refine rj_val (wn1 rfl rfl rfl rfl) rfl rfl (y_leq rfl rfl) ?_
   refine rv0 rfl rfl rfl (y_pick_t rfl rfl) ?_
   refine rv0 rfl rfl rfl (y_move rfl) ?_
   refine rj_part 15 rfl (fun hg15 => ?_) (fun hg15 => ?_)
   ·try simp only [dT, dF, nT, nF, tF, fT] at hg15
    refine rj_val (wn1 rfl rfl rfl rfl) rfl rfl ((y_indexAddr_arr Try.underlying41 Try.sizeOf26 rfl rfl (by decide))) ?_
    refine rj_val (wn1 rfl rfl rfl rfl) rfl rfl (y_fieldAddr (k := 2) Try.underlying26 rfl (n := 1) (by decide) Try.sizeOf9 rfl) ?_
    refine rj_val (wn1 rfl rfl rfl rfl) rfl rfl ((y_load ⟨Try.isAgg9, Try.sizeOf9⟩ rfl (by (repeat (first|exact zH _|apply zT));done) (valsC_nth (l := [v0, v1, v2]) (i := 2) (j := 2) (u := .string (str v2.s)) rfl rfl))) ?_
    refine rj_val (wn1 rfl rfl rfl rfl) rfl rfl (y_slen Try.underlying9 rfl) ?_
    refine rj_val (wn1 rfl rfl rfl rfl) rfl rfl (y_leq rfl rfl) ?_
    refine rv0 rfl rfl rfl (y_pick_t rfl rfl) ?_
    refine rv0 rfl rfl rfl (y_assign rfl) ?_
    refine rj_nil ?_
    refine hK2 _ _ _ ?_
    refine cj_env (eL 2 rfl eN) ?_
    refine cj_ret ?_
    refine hret _ _ _ ?_
    apply ej_ret Try.results17 (.cons (rv_tmp rfl) .nil) _ [] (by (first | exact Hp.le_refl _ | assumption | exact Hp.le_trans ‹_› ‹_›)) rfl
    case hp => refine ⟨?_, rfl⟩; show Value.bool _ = Value.bool _; congr 1; unfold fewB; rw [Bool.eq_iff_iff]; simp; omega
    case hS => (repeat (first|exact zR _|(apply zP;focus (repeat (first|exact zH _|apply zT)))|apply zD|exact zA _ _))
   ·try simp only [dT, dF, nT, nF, tF, fT] at hg15
    refine rj_skip (wn2 rfl rfl rfl rfl rfl) rfl rfl ?_
    refine rj_skip (wn2 rfl rfl rfl rfl rfl) rfl rfl ?_
    refine rj_skip (wn2 rfl rfl rfl rfl rfl) rfl rfl ?_
    refine rj_skip (wn2 rfl rfl rfl rfl rfl) rfl rfl ?_
    refine rj_skip (wn2 rfl rfl rfl rfl rfl) rfl rfl ?_
    refine rv0 rfl rfl rfl (y_pick_f rfl rfl) ?_
    refine rv0 rfl rfl rfl (y_assign rfl) ?_
    refine rj_nil ?_
    refine hK2 _ _ _ ?_
    refine cj_env (eL 2 rfl eN) ?_
    refine cj_ret ?_
    refine hret _ _ _ ?_
    apply ej_ret Try.results17 (.cons (rv_tmp rfl) .nil) _ [] (by (first | exact Hp.le_refl _ | assumption | exact Hp.le_trans ‹_› ‹_›)) rfl
    case hp => refine ⟨?_, rfl⟩; show Value.bool _ = Value.bool _; congr 1; unfold fewB; rw [Bool.eq_iff_iff]; simp; omega
    case hS => (repeat (first|exact zR _|(apply zP;focus (repeat (first|exact zH _|apply zT)))|apply zD|exact zA _ _))
  ·try simp only [dT, dF, nT, nF, tF, fT] at hg8
   refine rj_skip (wn2 rfl rfl rfl rfl rfl) rfl rfl ?_
   refine rj_skip (wn2 rfl rfl rfl rfl rfl) rfl rfl ?_
   refine rj_skip (wn2 rfl rfl rfl rfl rfl) rfl rfl ?_
   refine rj_skip (wn2 rfl rfl rfl rfl rfl) rfl rfl ?_
   refine rj_skip (wn2 rfl rfl rfl rfl rfl) rfl rfl ?_
   refine rv0 rfl rfl rfl (y_pick_f rfl rfl) ?_
   refine rv0 rfl rfl rfl (y_move rfl) ?_
   refine rj_skip (wn2 rfl rfl rfl rfl rfl) rfl rfl ?_
   refine rj_skip (wn2 rfl rfl rfl rfl rfl) rfl rfl ?_
   refine rj_skip (wn2 rfl rfl rfl rfl rfl) rfl rfl ?_
   refine rj_skip (wn2 rfl rfl rfl rfl rfl) rfl rfl ?_
   refine rj_skip (wn2 rfl rfl rfl rfl rfl) rfl rfl ?_
   refine rv0 rfl rfl rfl (y_pick_f rfl rfl) ?_
   refine rv0 rfl rfl rfl (y_assign rfl) ?_
   refine rj_nil ?_
   refine hK2 _ _ _ ?_
   refine cj_env (eL 2 rfl eN) ?_
   refine cj_ret ?_
   refine hret _ _ _ ?_
   apply ej_ret Try.results17 (.cons (rv_tmp rfl) .nil) _ [] (by (first | exact Hp.le_refl _ | assumption | exact Hp.le_trans ‹_› ‹_›)) rfl
   case hp => refine ⟨?_, rfl⟩; show Value.bool _ = Value.bool _; congr 1; unfold fewB; rw [Bool.eq_iff_iff]; simp; omega
   case hS => (repeat (first|exact zR _|(apply zP;focus (repeat (first|exact zH _|apply zT)))|apply zD|exact zA _ _))
theorem rowV_len : ∀ {cs : List Cl} {l : List Vl}, cs.length = l.length → (rowV cs l).length = l.length
  | [], [], _ => rfl
  | c :: cs, v :: l, h => by simp at h; simp [rowV, rowV_len h]
theorem rowV_take : ∀ {cs : List Cl} {l : List Vl} {i : Nat} {c : Cl} {v : Vl}, cs[i]? = some c → l[i]? = some v → rowV (cs.take (i + 1)) (l.take (i + 1)) = rowV (cs.take i) (l.take i) ++ [if isV v = true ∧ v.kind = c.kind then v else Vl.zero]
  | [], l, i, c, v, h, _ => by simp at h
  | c0 :: cs, [], i, c, v, _, h => by simp at h
  | c0 :: cs, v0 :: l, 0, c, v, h1, h2 => by simp at h1 h2; subst h1 h2; simp [rowV]
  | c0 :: cs, v0 :: l, i + 1, c, v, h1, h2 => by
    have := rowV_take (cs := cs) (l := l) (i := i) (c := c) (v := v) (by simpa using h1) (by simpa using h2)
    simp only [List.take_succ_cons, rowV, List.cons_append] at this ⊢
    rw [this]
theorem row_t {R : Hp} (cols : List Cl) (vc : Value) (l : List Vl) (hc : FrX colE R cols vc) (hcl : cols.length = 3) (hl : l.length = 3) (hs : ∀ v ∈ l, v.s.length ≤ maxLen) :
    Tri Try.prog 18 [vc, .agg ⟨valsC l⟩] R [] (fun u R' L' => FrX valE R' (rowV cols l) u ∧ L' = []) := by
  obtain ⟨q, cap, rfl, hcap, hcm⟩ := hc.shape
  have hvl := valsC_len l
  refine tri_of Try.func18 rfl Try.ntmps18 rfl (fun σ F Q hret hend hpan => ?_)
  try simp only [List.cons_append, List.nil_append]
  refine cj_env (eL 0 rfl (eL 1 rfl eN)) ?_
  refine cj_seq (fun K1 hK1 => ?_)
  refine cj_region ?_
  refine rj_box (wn0 rfl) rfl rfl rfl (fun b3 => ?_)
  refine rv0 rfl rfl rfl (y_assign rfl) ?_
  refine rj_nil ?_
  refine hK1 _ _ _ ?_
  refine cj_seq (fun K2 hK2 => ?_)
  refine cj_region ?_
  refine rv0 rfl rfl rfl (y_assign rfl) ?_
  refine rj_add (A := slc 26 3 (.slice none 0 0) 0 (valsV [])) (slc_nil _ _) ?_
  refine rj_nil ?_
  refine hK2 _ _ _ ?_
  refine cj_seq (fun K3 hK3 => ?_)
  refine cj_seq (fun K4 hK4 => ?_)
  refine cj_region ?_
  refine rv0 rfl rfl rfl ((y_loads_blk (vs := valsC l) ⟨Try.isAgg41, Try.sizeOf41⟩ rfl (by (repeat (first|exact zH _|apply zT));done) (by rw [List.drop_zero, List.take_of_length_le (by omega)]) (by omega))) ?_
  refine rv0 rfl rfl rfl (y_move rfl) ?_
  refine rj_nil ?_
  refine hK4 _ _ _ ?_
  refine cj_env (eL 0 rfl (eL 5 rfl (eL 8 rfl (eL 9 rfl eN)))) ?_
  refine cj_block ?_
  refine cj_env (E' := (fun (x : Nat × Value × List Vl) => [(0, .slice q cols.length cap), (5, x.2.1), (8, .agg ⟨valsC l⟩), (9, .int .i64 (x.1 : Int))]) (0, .slice none 0 0, [])) (eC rfl (eC rfl (eC rfl (eC rfl eN)))) ?_
  refine cj_sub (M := (fun (x : Nat × Value × List Vl) => slc 26 3 x.2.1 x.2.2.length (valsV x.2.2) :: blk b3 (valsC l) 41 :: F) (0, .slice none 0 0, [])) (by (repeat (first|exact zR _|(apply zP;focus (repeat (first|exact zH _|apply zT)))|apply zD|exact zA _ _))) ?_
  refine cj_loop (fun (x : Nat × Value × List Vl) => [(0, .slice q cols.length cap), (5, x.2.1), (8, .agg ⟨valsC l⟩), (9, .int .i64 (x.1 : Int))]) (fun (x : Nat × Value × List Vl) => R) (fun (x : Nat × Value × List Vl) => slc 26 3 x.2.1 x.2.2.length (valsV x.2.2) :: blk b3 (valsC l) 41 :: F) (fun (x : Nat × Value × List Vl) => x.1 ≤ 3 ∧ x.2.1.oneCell' = true ∧ x.2.2 = rowV (cols.take x.1) (l.take x.1)) (fun (x : Nat × Value × List Vl) => 3 - x.1) (0, .slice none 0 0, []) (⟨by simp, rfl, by simp [rowV]⟩) ?_
  rintro ⟨i, vl, ks⟩ ⟨hi, hvo, hks⟩
  try dsimp only
  dsimp only at hi hvo hks
  refine cj_seq (fun K5 hK5 => ?_)
  refine cj_region ?_
  refine rv0 rfl rfl rfl (y_lss rfl rfl) ?_
  refine rj_nil ?_
  refine hK5 _ _ _ ?_
  refine cj_seq (fun K6 hK6 => ?_)
  refine cj_cond rfl (fun hc10 => ?_) (fun hc10 => ?_)
  ·try simp only [dT, dF, nT, nF, tF, fT] at hc10
   refine cj_skip ?_
   refine hK6 _ _ _ ?_
   refine cj_seq (fun K8 hK8 => ?_)
   refine cj_block ?_
   refine cj_seq (fun K9 hK9 => ?_)
   refine cj_region ?_
   have hi2 : i < 3 := by (try simp at hc10); omega
   obtain ⟨v, hv⟩ : ∃ x, l[i]? = some x := ⟨l[i]'(by omega), by simp⟩
   obtain ⟨x, hx⟩ : ∃ x, cols[i]? = some x := ⟨cols[i]'(by omega), by simp⟩
   obtain ⟨bc, oc, cc, cs0, he, rfl, _, hcell⟩ := hc.at hx
   obtain ⟨rfl, rfl⟩ : q = some ⟨bc, oc, none⟩ ∧ cap = cc := by cases he; exact ⟨rfl, rfl⟩
   have hkl : ks.length = i := by rw [hks, rowV_len (by simp; omega)]; simp; omega
   refine rv0 rfl rfl rfl (y_move rfl) ?_
   refine rv0 rfl rfl rfl ((y_index_agg (vs := valC v) Try.underlying41 ⟨Try.isAgg26, Try.sizeOf26⟩ rfl rfl (by omega) (by simpa using valsC_at hv) (by simp; omega))) ?_
   refine rj_alloc (wn0 rfl) rfl Try.zeroValue26 rfl (fun b7 => ?_)
   refine rv0 rfl rfl rfl (y_assign rfl) ?_
   refine rj_stores_all (vs := valC v) ⟨Try.isAgg26, Try.sizeOf26⟩ rfl (wn0 rfl) rfl rfl (valE.one (R := R) (x := v) rfl) (by (repeat (first|exact zH _|apply zT));done) rfl ?_
   refine rj_nil ?_
   refine hK9 _ _ _ ?_
   refine cj_env (eL 0 rfl (eL 5 rfl (eL 6 rfl (eL 7 rfl (eL 8 rfl (eL 9 rfl eN)))))) ?_
   refine cj_seq (fun K10 hK10 => ?_)
   have hJ7 : ∀ (z : Vl), (if isV v = true ∧ v.kind = x.kind then v else Vl.zero) = z → EJ ⟨Try.prog, 33, σ⟩ K10 [(0, .slice (some ⟨bc, oc, none⟩) cols.length cap), (5, vl), (7, .pointer (some ⟨b7, 0, none⟩)), (8, .agg ⟨valsC l⟩), (9, .int .i64 (i : Int))] R (blk b7 (valC z) 26 :: slc 26 3 vl ks.length (valsV ks) :: blk b3 (valsC l) 41 :: F) := by
    rintro z hz
    try dsimp only
    refine hK10 _ _ _ ?_
    refine cj_region ?_
    refine rv0 rfl rfl rfl (y_move rfl) ?_
    refine rv0 rfl rfl rfl ((y_loads_all (vs := valC z) ⟨Try.isAgg26, Try.sizeOf26⟩ rfl rfl (by (repeat (first|exact zH _|apply zT));done))) ?_
    refine rj_buildSlice (sz := 3) (wn0 rfl) rfl Try.underlying43 Try.sizeOf26 Try.zeroValue26 rfl rfl rfl (by decide) (by decide) (fun bz => ?_)
    refine rj_append (sz := 3) (by_ := 32) ⟨Try.underlying43, _, _, rfl, rfl, rfl, rfl, rfl⟩ (wn0 rfl) rfl rfl rfl (by (repeat (first|exact zH _|apply zT));done) (src_slc (xs := valC z) Try.underlying43 (by (repeat (first|exact zH _|apply zT));done) (valE.one (R := R) (x := z) rfl)) rfl (by (first | omega | (dsimp only; omega) | (simp; done) | (simp; omega))) (by simp only [maxLen]; omega) (fun v30 ho30 hh30 => ?_)
    rw [valsV_snoc, show ks.length + 1 = (ks ++ [z]).length by simp]
    refine rv0 rfl rfl rfl (y_assign rfl) ?_
    refine rj_nil ?_
    refine hK8 _ _ _ ?_
    refine cj_env (eL 0 rfl (eL 5 rfl (eL 8 rfl (eL 9 rfl eN)))) ?_
    refine cj_region ?_
    first | refine rv0 rfl rfl rfl (y_add64 rfl rfl (by (first | omega | (dsimp only; omega) | (simp; done) | (simp; omega)))) ?_ | refine rv0 rfl rfl rfl (y_add rfl rfl) ?_
    refine rv0 rfl rfl rfl (y_move rfl) ?_
    refine rj_nil ?_
    refine ej_on (q' := roundK _ _ _ _ _ _ _) rfl ?_
    refine ej_round ((i + 1, v30, ks ++ [z])) (⟨by dsimp only; omega, by assumption, by dsimp only; rw [rowV_take hx hv, ← hks, hz]⟩) (by dsimp only; omega) (eC rfl (eC rfl (eC rfl (eC rfl eN)))) rfl (by (repeat (first|exact zR _|(apply zP;focus (repeat (first|exact zH _|apply zT)))|apply zD|exact zA _ _)))
   refine cj_seq (fun K11 hK11 => ?_)
   refine cj_draw (by kernel_rfl) (by kernel_rfl) ?_
   refine qj_val (wn0 rfl) rfl rfl ((y_loads_all (vs := valC v) ⟨Try.isAgg26, Try.sizeOf26⟩ rfl rfl (by (repeat (first|exact zH _|apply zT));done))) ?_
   refine qj_val (wn0 rfl) rfl rfl (y_call Try.call23 rfl (is_q v (hs v (List.mem_of_getElem? hv))) (by (repeat (first|exact zN _|(apply zS;focus (repeat (first|exact zH _|apply zT))))))) ?_
   refine qj_val (wn0 rfl) rfl rfl (y_not rfl) ?_
   refine qj_val (wn0 rfl) rfl rfl (y_move rfl) ?_
   refine qj_part 16 rfl (fun hg16 => ?_) (fun hg16 => ?_)
   ·try simp only [dT, dF, nT, nF, tF, fT] at hg16
    refine qj_skip (wn2 rfl rfl rfl rfl rfl) rfl rfl ?_
    refine qj_skip (wn2 rfl rfl rfl rfl rfl) rfl rfl ?_
    refine qj_skip (wn2 rfl rfl rfl rfl rfl) rfl rfl ?_
    refine qj_skip (wn2 rfl rfl rfl rfl rfl) rfl rfl ?_
    refine qj_skip (wn2 rfl rfl rfl rfl rfl) rfl rfl ?_
    refine qj_skip (wn2 rfl rfl rfl rfl rfl) rfl rfl ?_
    refine qj_skip (wn2 rfl rfl rfl rfl rfl) rfl rfl ?_
    refine qj_skip (wn2 rfl rfl rfl rfl rfl) rfl rfl ?_
    refine qj_val (wn0 rfl) rfl rfl (y_pick_t rfl rfl) ?_
    refine qj_nil ?_
    refine hK11 _ _ _ ?_
    refine cj_env (eL 0 rfl (eL 5 rfl (eL 7 rfl (eL 8 rfl (eL 9 rfl (eL 25 rfl eN)))))) ?_
    refine cj_cond_t rfl ?_
    refine cj_region ?_
    refine rv0 rfl rfl rfl (y_build (cells := [_, _, _]) [(0, 1), (1, 1), (2, 1)] Try.underlying26 Try.zeroValue26 (fun _ => rfl) rfl rfl) ?_
    refine rj_stores_all (vs := valC Vl.zero) ⟨Try.isAgg26, Try.sizeOf26⟩ rfl (wn0 rfl) rfl rfl (valE.one (R := R) (x := Vl.zero) rfl) (by (repeat (first|exact zH _|apply zT));done) rfl ?_
    refine rj_nil ?_
    refine ej_join hJ7 (Vl.zero) (by rw [if_neg (by simp_all)]) (eC rfl (eC rfl (eC rfl (eC rfl (eC rfl eN))))) rfl (by (repeat (first|exact zR _|(apply zP;focus (repeat (first|exact zH _|apply zT)))|apply zD|exact zA _ _)))
   ·try simp only [dT, dF, nT, nF, tF, fT] at hg16
    refine qj_val (wn1 rfl rfl rfl rfl) rfl rfl (y_fieldAddr (k := 0) Try.underlying26 rfl (n := 1) (by decide) Try.sizeOf3 rfl) ?_
    first | refine qj_val (wn1 rfl rfl rfl rfl) rfl rfl (y_load ⟨Try.isAgg3, Try.sizeOf3⟩ rfl (by (repeat (first|exact zH _|apply zT));done) rfl) ?_ | refine qj_val (wn1 rfl rfl rfl rfl) rfl rfl (y_load_slc ⟨Try.isAgg3, Try.sizeOf3⟩ rfl (by (repeat (first|exact zH _|apply zT));done) rfl) ?_
    refine qj_val (wn1 rfl rfl rfl rfl) rfl rfl (y_move rfl) ?_
    refine qj_val (wn1 rfl rfl rfl rfl) rfl rfl (y_move rfl) ?_
    first | refine qj_val (wn1 rfl rfl rfl rfl) rfl rfl (y_indexAddr Try.underlying35 Try.sizeOf66 rfl rfl (by (first | omega | (dsimp only; omega) | (simp; done) | (simp; omega)))) ?_ | refine qj_val (wn1 rfl rfl rfl rfl) rfl rfl (y_index_slc Try.underlying35 Try.sizeOf66 rfl rfl (by (repeat (first|exact zH _|apply zT));done) (by (first | omega | (dsimp only; omega) | (simp; done) | (simp; omega)))) ?_
    refine qj_val (wn1 rfl rfl rfl rfl) rfl rfl (y_fieldAddr (k := 1) Try.underlying66 rfl (n := 1) (by decide) Try.sizeOf3 rfl) ?_
    refine qj_val (wn1 rfl rfl rfl rfl) rfl rfl ((y_load_ro ⟨Try.isAgg3, Try.sizeOf3⟩ rfl (hcell 1 (.int .i64 x.kind) rfl))) ?_
    refine qj_val (wn1 rfl rfl rfl rfl) rfl rfl (y_neq rfl rfl) ?_
    refine qj_val (wn0 rfl) rfl rfl (y_pick_f rfl rfl) ?_
    refine qj_nil ?_
    refine hK11 _ _ _ ?_
    refine cj_env (eL 0 rfl (eL 5 rfl (eL 7 rfl (eL 8 rfl (eL 9 rfl (eL 25 rfl eN)))))) ?_
    refine cj_cond rfl (fun hc25 => ?_) (fun hc25 => ?_)
    ·try simp only [dT, dF, nT, nF, tF, fT] at hc25
     refine cj_region ?_
     refine rv0 rfl rfl rfl (y_build (cells := [_, _, _]) [(0, 1), (1, 1), (2, 1)] Try.underlying26 Try.zeroValue26 (fun _ => rfl) rfl rfl) ?_
     refine rj_stores_all (vs := valC Vl.zero) ⟨Try.isAgg26, Try.sizeOf26⟩ rfl (wn0 rfl) rfl rfl (valE.one (R := R) (x := Vl.zero) rfl) (by (repeat (first|exact zH _|apply zT));done) rfl ?_
     refine rj_nil ?_
     refine ej_join hJ7 (Vl.zero) (by rw [if_neg (by simp_all)]) (eC rfl (eC rfl (eC rfl (eC rfl (eC rfl eN))))) rfl (by (repeat (first|exact zR _|(apply zP;focus (repeat (first|exact zH _|apply zT)))|apply zD|exact zA _ _)))
    ·try simp only [dT, dF, nT, nF, tF, fT] at hc25
     refine cj_skip ?_
     refine ej_join hJ7 (v) (by rw [if_pos (by simp_all)]) (eC rfl (eC rfl (eC rfl (eC rfl (eC rfl eN))))) rfl (by (repeat (first|exact zR _|(apply zP;focus (repeat (first|exact zH _|apply zT)))|apply zD|exact zA _ _)))
  ·try simp only [dT, dF, nT, nF, tF, fT] at hc10
   refine cj_exit ?_
   refine hK3 _ _ _ ?_
   refine cj_env (eL 5 rfl eN) ?_
   refine cj_seq (fun K13 hK13 => ?_)
   refine cj_region ?_
   obtain rfl : i = 3 := by (try simp at hc10); omega
   rw [List.take_of_length_le (by omega), List.take_of_length_le (by omega)] at hks
   refine rj_freeze (e := 26) (sz := 3) (n := ks.length) (xs := valsV ks) (by (repeat (first|exact zH _|apply zT));done) (fun R2 hR2 hfr1 hxl1 => ?_)
   have hfv := valsFr hfr1
   rw [hks] at hfv
   refine rv0 rfl rfl rfl (y_move rfl) ?_
   refine rv0 rfl rfl rfl (y_assign rfl) ?_
   refine rj_nil ?_
   refine hK13 _ _ _ ?_
   refine cj_ret ?_
   refine hret _ _ _ ?_
   apply ej_ret Try.results18 (.cons (rv_tmp rfl) .nil) _ [] hR2 rfl
   case hp => exact ⟨hfv, rfl⟩
   case hS => (repeat (first|exact zR _|(apply zP;focus (repeat (first|exact zH _|apply zT)))|apply zD|exact zA _ _))
end V
end Go.Proofs.Ytghgifgmacapcaa
