/- Columns' places; numbers among numbers. -/
import Derived.Test.YtghgifgmacapcaaT18b
set_option linter.unusedSimpArgs false
set_option linter.unusedVariables false
set_option maxRecDepth 100000
namespace Go.Proofs.Ytghgifgmacapcaa
open Go.RowKit
namespace V
set_option maxHeartbeats 4000000
/-! ### the first place -/
def idxI {α : Type} (p : α → Bool) (l : List α) : Int := match l.findIdx? p with
  | some i => (i : Int)
  | none => -1
theorem placeC_idx (cols : List Cl) (name : Bs) : placeC cols name = idxI (fun c => decide (c.name = name)) cols := rfl
theorem idxI_cons {α : Type} (p : α → Bool) (a : α) (l : List α) : idxI p (a :: l) = if p a then 0 else if idxI p l < 0 then -1 else idxI p l + 1 := by
  unfold idxI
  rw [List.findIdx?_cons]
  cases hp : p a
  · simp only [Bool.false_eq_true, if_false]
    cases l.findIdx? p with
    | none => simp
    | some i => simp; omega
  · simp
theorem idxI_ge {α : Type} (p : α → Bool) : ∀ l : List α, -1 ≤ idxI p l ∧ idxI p l < l.length
  | [] => by simp [idxI]
  | a :: l => by
    have := idxI_ge p l
    rw [idxI_cons]
    split
    · simp
    · split <;> simp <;> omega
theorem idxI_hit {α : Type} {p : α → Bool} : ∀ {l : List α} {i : Nat} {x : α}, l[i]? = some x → (l.take i).any p = false → p x = true → idxI p l = i
  | [], i, x, h, _, _ => by simp at h
  | a :: l, 0, x, h, _, hx => by simp at h; subst h; rw [idxI_cons, if_pos hx]; rfl
  | a :: l, i + 1, x, h, h0, hx => by
    rw [List.take_succ_cons, List.any_cons, Bool.or_eq_false_iff] at h0
    rw [idxI_cons, h0.1, idxI_hit (by simpa using h) h0.2 hx]
    simp only [Bool.false_eq_true, if_false]
    rw [if_neg (by omega)]; omega
theorem idxI_none {α : Type} {p : α → Bool} : ∀ {l : List α}, l.any p = false → idxI p l = -1
  | [], _ => rfl
  | a :: l, h0 => by
    rw [List.any_cons, Bool.or_eq_false_iff] at h0
    rw [idxI_cons, h0.1, idxI_none h0.2]; simp
theorem idxI_any {α : Type} {p : α → Bool} : ∀ {l : List α}, (0 ≤ idxI p l ↔ l.any p = true)
  | [] => by simp [idxI]
  | a :: l => by
    have := idxI_any (p := p) (l := l)
    rw [idxI_cons, List.any_cons]
    cases p a
    · simp only [Bool.false_eq_true, if_false, Bool.false_or]
      rw [← this]; split <;> omega
    · simp
def intsV (l : List Int) : List Value := l.map (Value.int .i64 ·)
def intE : Elt Int where
  P := fun _ n cs => cs = [.int .i64 n]
  sz := 1
  mono := fun _ h => h
  len := fun h => by subst h; rfl
  one := fun h u hu => by subst h; simp at hu; rcases hu with rfl; rfl
theorem intsV_flat (l : List Int) : intsV l = (l.map fun n => [Value.int .i64 n]).flatten := by
  induction l with
  | nil => rfl
  | cons a l ih => simp only [intsV, List.map_cons, List.flatten_cons] at *; rw [ih]; rfl
theorem intsFr {R : Hp} {l : List Int} {v : Value} (h : FrozenS R v l.length (intsV l)) : FrX intE R l v := by
  rw [intsV_flat] at h
  refine FrozenS.frx h ⟨by simp, fun i x cs h1 h2 => ?_⟩
  rw [List.getElem?_map, h1] at h2
  simpa [intE] using h2.symm
theorem intIndex_q {R : Hp} (l : List Int) (v : Value) (hl : FrX intE R l v) (n : Int) : QTri Try.prog 77 [v, .int .i64 n] R [] (.int .i64 (idxI (fun k => decide (n = k)) l)) := by
  obtain ⟨q, cap, rfl, hcap, hcm⟩ := hl.shape
  have hlb : l.length ≤ maxLen := Nat.le_trans hcap hcm
  unfold maxLen at hlb
  refine Tri.q2 ?_
  refine tri_of Try.func77 rfl Try.ntmps77 rfl (fun σ F Q hret hend hpan => ?_)
  try simp only [List.cons_append, List.nil_append]
  refine cj_env (eL 0 rfl (eL 1 rfl eN)) ?_
  refine cj_seq (fun K1 hK1 => ?_)
  refine cj_region ?_
  refine rv0 rfl rfl rfl (y_assign rfl) ?_
  refine rj_nil ?_
  refine hK1 _ _ _ ?_
  refine cj_seq (fun K2 hK2 => ?_)
  refine cj_seq (fun K3 hK3 => ?_)
  refine cj_region ?_
  refine rv0 rfl rfl rfl (y_move rfl) ?_
  first | refine rv0 rfl rfl rfl (y_len_sl Try.underlying88 rfl) ?_ | refine rv0 rfl rfl rfl (y_len_slc Try.underlying88 rfl (by (repeat (first|exact zH _|apply zT));done)) ?_
  refine rv0 rfl rfl rfl (y_move rfl) ?_
  refine rj_nil ?_
  refine hK3 _ _ _ ?_
  refine cj_block ?_
  refine cj_env (E' := (fun (x : Nat) => [(0, .slice q l.length cap), (1, .int .i64 n), (7, .int .i64 (l.length : Int)), (8, .int .i64 (x : Int))]) 0) (eC rfl (eC rfl (eC rfl (eC rfl eN)))) ?_
  refine cj_sub (M := (fun (x : Nat) => F) 0) (by (repeat (first|exact zR _|(apply zP;focus (repeat (first|exact zH _|apply zT)))|apply zD|exact zA _ _))) ?_
  refine cj_loop (fun (x : Nat) => [(0, .slice q l.length cap), (1, .int .i64 n), (7, .int .i64 (l.length : Int)), (8, .int .i64 (x : Int))]) (fun (x : Nat) => R) (fun (x : Nat) => F) (fun (x : Nat) => x ≤ l.length ∧ (l.take x).any (fun k => decide (n = k)) = false) (fun (x : Nat) => l.length - x) 0 (⟨by simp, by simp⟩) ?_
  rintro i ⟨hi, hall⟩
  try dsimp only
  refine cj_seq (fun K4 hK4 => ?_)
  refine cj_region ?_
  refine rv0 rfl rfl rfl (y_lss rfl rfl) ?_
  refine rj_nil ?_
  refine hK4 _ _ _ ?_
  refine cj_seq (fun K5 hK5 => ?_)
  refine cj_cond rfl (fun hc9 => ?_) (fun hc9 => ?_)
  ·try simp only [dT, dF, nT, nF, tF, fT] at hc9
   refine cj_skip ?_
   refine hK5 _ _ _ ?_
   refine cj_seq (fun K7 hK7 => ?_)
   refine cj_block ?_
   refine cj_seq (fun K8 hK8 => ?_)
   refine cj_region ?_
   obtain ⟨x, hx⟩ : ∃ x, l[i]? = some x := ⟨l[i]'(by omega), by simp⟩
   obtain ⟨b, off, cap', cs, he, rfl, hcl, hcell⟩ := hl.at hx
   obtain ⟨rfl, rfl⟩ : q = some ⟨b, off, none⟩ ∧ cap = cap' := by cases he; exact ⟨rfl, rfl⟩
   refine rv0 rfl rfl rfl (y_move rfl) ?_
   refine rv0 rfl rfl rfl (y_assign rfl) ?_
   refine rj_nil ?_
   refine hK8 _ _ _ ?_
   refine cj_seq (fun K9 hK9 => ?_)
   refine cj_region ?_
   refine rv0 rfl rfl rfl (y_move rfl) ?_
   refine rv0 rfl rfl rfl (y_move rfl) ?_
   refine rv0 rfl rfl rfl (y_move rfl) ?_
   first | refine rv0 rfl rfl rfl (y_indexAddr Try.underlying88 Try.sizeOf3 rfl rfl (by (first | omega | (dsimp only; omega) | (simp; done) | (simp; omega)))) ?_ | refine rv0 rfl rfl rfl (y_index_slc Try.underlying88 Try.sizeOf3 rfl rfl (by (repeat (first|exact zH _|apply zT));done) (by (first | omega | (dsimp only; omega) | (simp; done) | (simp; omega)))) ?_
   refine rv0 rfl rfl rfl ((y_load_ro ⟨Try.isAgg3, Try.sizeOf3⟩ rfl (hcell 0 (.int .i64 x) rfl))) ?_
   refine rv0 rfl rfl rfl (y_eql rfl rfl) ?_
   refine rj_nil ?_
   refine hK9 _ _ _ ?_
   refine cj_env (eL 0 rfl (eL 1 rfl (eL 5 rfl (eL 7 rfl (eL 8 rfl (eL 16 rfl eN)))))) ?_
   refine cj_cond rfl (fun hc16 => ?_) (fun hc16 => ?_)
   ·try simp only [dT, dF, nT, nF, tF, fT] at hc16
    refine cj_seq (fun K11 hK11 => ?_)
    refine cj_region ?_
    refine rv0 rfl rfl rfl (y_move rfl) ?_
    refine rv0 rfl rfl rfl (y_assign rfl) ?_
    refine rj_nil ?_
    refine hK11 _ _ _ ?_
    refine cj_env (eL 4 rfl eN) ?_
    refine cj_ret ?_
    refine hret _ _ _ ?_
    apply ej_ret Try.results77 (.cons (rv_tmp rfl) .nil) _ [] (by (first | exact Hp.le_refl _ | assumption | exact Hp.le_trans ‹_› ‹_›)) rfl
    case hp => refine ⟨?_, rfl⟩; rw [idxI_hit hx hall (by simpa using hc16)]; rfl
    case hS => (repeat (first|exact zR _|(apply zP;focus (repeat (first|exact zH _|apply zT)))|apply zD|exact zA _ _))
   ·try simp only [dT, dF, nT, nF, tF, fT] at hc16
    refine cj_skip ?_
    refine hK7 _ _ _ ?_
    refine cj_region ?_
    first | refine rv0 rfl rfl rfl (y_add64 rfl rfl (by (first | omega | (dsimp only; omega) | (simp; done) | (simp; omega)))) ?_ | refine rv0 rfl rfl rfl (y_add rfl rfl) ?_
    refine rv0 rfl rfl rfl (y_move rfl) ?_
    refine rj_nil ?_
    refine ej_on (q' := roundK _ _ _ _ _ _ _) rfl ?_
    refine ej_round (i + 1) (⟨by omega, by rw [List.take_add_one, hx]; simp [hall, hc16]⟩) (by omega) (eC rfl (eC rfl (eC rfl (eC rfl eN)))) rfl (by (repeat (first|exact zR _|(apply zP;focus (repeat (first|exact zH _|apply zT)))|apply zD|exact zA _ _)))
  ·try simp only [dT, dF, nT, nF, tF, fT] at hc9
   refine cj_exit ?_
   refine hK2 _ _ _ ?_
   refine cj_env eN ?_
   refine cj_seq (fun K12 hK12 => ?_)
   refine cj_region ?_
   refine rv0 rfl rfl rfl (y_assign rfl) ?_
   refine rj_nil ?_
   refine hK12 _ _ _ ?_
   refine cj_ret ?_
   refine hret _ _ _ ?_
   apply ej_ret Try.results77 (.cons (rv_tmp rfl) .nil) _ [] (by (first | exact Hp.le_refl _ | assumption | exact Hp.le_trans ‹_› ‹_›)) rfl
   case hp => refine ⟨?_, rfl⟩; rw [List.take_of_length_le (by omega)] at hall; rw [idxI_none hall]; rfl
   case hS => (repeat (first|exact zR _|(apply zP;focus (repeat (first|exact zH _|apply zT)))|apply zD|exact zA _ _))
theorem decEq (l : List Int) (n : Int) : decide (0 ≤ idxI (fun k => decide (n = k)) l) = l.contains n := by
  rw [Bool.eq_iff_iff, decide_eq_true_iff, idxI_any]
  simp
theorem intContains_q {R : Hp} (l : List Int) (v : Value) (hl : FrX intE R l v) (n : Int) : QTri Try.prog 52 [v, .int .i64 n] R [] (.bool (l.contains n)) := by
  refine Tri.q2 ?_
  refine tri_of Try.func52 rfl Try.ntmps52 rfl (fun σ F Q hret hend hpan => ?_)
  try simp only [List.cons_append, List.nil_append]
  refine cj_env (eL 0 rfl (eL 1 rfl eN)) ?_
  refine cj_seq (fun K1 hK1 => ?_)
  refine cj_region ?_
  refine rv0 rfl rfl rfl (y_assign rfl) ?_
  refine rj_nil ?_
  refine hK1 _ _ _ ?_
  refine cj_seq (fun K2 hK2 => ?_)
  refine cj_region ?_
  refine rv0 rfl rfl rfl (y_move rfl) ?_
  refine rv0 rfl rfl rfl (y_move rfl) ?_
  refine rv0 rfl rfl rfl (y_call Try.call77 rfl (intIndex_q l v hl n) (by (repeat (first|exact zN _|(apply zS;focus (repeat (first|exact zH _|apply zT))))))) ?_
  refine rv0 rfl rfl rfl (y_geq rfl rfl) ?_
  refine rv0 rfl rfl rfl (y_assign rfl) ?_
  refine rj_nil ?_
  refine hK2 _ _ _ ?_
  refine cj_env (eL 4 rfl eN) ?_
  refine cj_ret ?_
  refine hret _ _ _ ?_
  apply ej_ret Try.results52 (.cons (rv_tmp rfl) .nil) _ [] (by (first | exact Hp.le_refl _ | assumption | exact Hp.le_trans ‹_› ‹_›)) rfl
  case hp => refine ⟨?_, rfl⟩; rw [← decEq]; rfl
  case hS => (repeat (first|exact zR _|(apply zP;focus (repeat (first|exact zH _|apply zT)))|apply zD|exact zA _ _))
theorem kind1_q {R : Hp} (l : List Int) (v : Value) (hl : FrX intE R l v) (n : Int) (b : Nat) : QTri Try.prog 51 [.int .i64 n, .pointer (some ⟨b, 0, none⟩)] R [blk b [v] 88] (.bool (l.contains n)) := by
  have hv := hl.one
  refine Tri.q2 ?_
  refine tri_of Try.func51 rfl Try.ntmps51 rfl (fun σ F Q hret hend hpan => ?_)
  try simp only [List.cons_append, List.nil_append]
  refine cj_env (eL 0 rfl (eL 1 rfl eN)) ?_
  refine cj_seq (fun K1 hK1 => ?_)
  refine cj_region ?_
  refine rv0 rfl rfl rfl (y_assign rfl) ?_
  refine rj_nil ?_
  refine hK1 _ _ _ ?_
  refine cj_seq (fun K2 hK2 => ?_)
  refine cj_region ?_
  first | refine rv0 rfl rfl rfl (y_load ⟨Try.isAgg88, Try.sizeOf88⟩ rfl (by (repeat (first|exact zH _|apply zT));done) rfl) ?_ | refine rv0 rfl rfl rfl (y_load_slc ⟨Try.isAgg88, Try.sizeOf88⟩ rfl (by (repeat (first|exact zH _|apply zT));done) rfl) ?_
  refine rv0 rfl rfl rfl (y_move rfl) ?_
  refine rv0 rfl rfl rfl (y_call Try.call52 rfl (intContains_q l v hl n) (by (repeat (first|exact zN _|(apply zS;focus (repeat (first|exact zH _|apply zT))))))) ?_
  refine rv0 rfl rfl rfl (y_assign rfl) ?_
  refine rj_nil ?_
  refine hK2 _ _ _ ?_
  refine cj_env (eL 3 rfl eN) ?_
  refine cj_ret ?_
  refine hret _ _ _ ?_
  apply ej_ret Try.results51 (.cons (rv_tmp rfl) .nil) _ [blk b [v] 88] (by (first | exact Hp.le_refl _ | assumption | exact Hp.le_trans ‹_› ‹_›)) rfl
  case hp => exact ⟨rfl, rfl⟩
  case hS => (repeat (first|exact zR _|(apply zP;focus (repeat (first|exact zH _|apply zT)))|apply zD|exact zA _ _))
theorem has_q {R : Hp} (l : List Int) (v : Value) (hl : FrX intE R l v) (n : Int) : QTri Try.prog 55 [v, .int .i64 n] R [] (.bool (l.contains n)) := by
  obtain ⟨q, cap, rfl, hcap, hcm⟩ := hl.shape
  have hlb : l.length ≤ maxLen := Nat.le_trans hcap hcm
  unfold maxLen at hlb
  refine Tri.q2 ?_
  refine tri_of Try.func55 rfl Try.ntmps55 rfl (fun σ F Q hret hend hpan => ?_)
  try simp only [List.cons_append, List.nil_append]
  refine cj_env (eL 0 rfl (eL 1 rfl eN)) ?_
  refine cj_seq (fun K1 hK1 => ?_)
  refine cj_region ?_
  refine rv0 rfl rfl rfl (y_assign rfl) ?_
  refine rj_nil ?_
  refine hK1 _ _ _ ?_
  refine cj_seq (fun K2 hK2 => ?_)
  refine cj_seq (fun K3 hK3 => ?_)
  refine cj_region ?_
  refine rv0 rfl rfl rfl (y_assign rfl) ?_
  refine rj_nil ?_
  refine hK3 _ _ _ ?_
  refine cj_block ?_
  refine cj_env (E' := (fun (x : Nat) => [(0, .slice q l.length cap), (1, .int .i64 n), (5, .int .i64 (x : Int))]) 0) (eC rfl (eC rfl (eC rfl eN))) ?_
  refine cj_sub (M := (fun (x : Nat) => F) 0) (by (repeat (first|exact zR _|(apply zP;focus (repeat (first|exact zH _|apply zT)))|apply zD|exact zA _ _))) ?_
  refine cj_loop (fun (x : Nat) => [(0, .slice q l.length cap), (1, .int .i64 n), (5, .int .i64 (x : Int))]) (fun (x : Nat) => R) (fun (x : Nat) => F) (fun (x : Nat) => x ≤ l.length ∧ (l.take x).any (fun k => decide (n = k)) = false) (fun (x : Nat) => l.length - x) 0 (⟨by simp, by simp⟩) ?_
  rintro i ⟨hi, hall⟩
  try dsimp only
  refine cj_seq (fun K4 hK4 => ?_)
  refine cj_seq (fun K5 hK5 => ?_)
  refine cj_region ?_
  refine rv0 rfl rfl rfl (y_move rfl) ?_
  refine rv0 rfl rfl rfl (y_move rfl) ?_
  first | refine rv0 rfl rfl rfl (y_len_sl Try.underlying88 rfl) ?_ | refine rv0 rfl rfl rfl (y_len_slc Try.underlying88 rfl (by (repeat (first|exact zH _|apply zT));done)) ?_
  refine rv0 rfl rfl rfl (y_lss rfl rfl) ?_
  refine rj_nil ?_
  refine hK5 _ _ _ ?_
  refine cj_env (eL 0 rfl (eL 1 rfl (eL 5 rfl (eL 9 rfl eN)))) ?_
  refine cj_cond rfl (fun hc9 => ?_) (fun hc9 => ?_)
  ·try simp only [dT, dF, nT, nF, tF, fT] at hc9
   refine cj_skip ?_
   refine hK4 _ _ _ ?_
   refine cj_seq (fun K7 hK7 => ?_)
   refine cj_block ?_
   refine cj_seq (fun K8 hK8 => ?_)
   refine cj_region ?_
   obtain ⟨x, hx⟩ : ∃ x, l[i]? = some x := ⟨l[i]'(by omega), by simp⟩
   obtain ⟨b, off, cap', cs, he, rfl, hcl, hcell⟩ := hl.at hx
   obtain ⟨rfl, rfl⟩ : q = some ⟨b, off, none⟩ ∧ cap = cap' := by cases he; exact ⟨rfl, rfl⟩
   refine rv0 rfl rfl rfl (y_move rfl) ?_
   refine rv0 rfl rfl rfl (y_move rfl) ?_
   first | refine rv0 rfl rfl rfl (y_indexAddr Try.underlying88 Try.sizeOf3 rfl rfl (by (first | omega | (dsimp only; omega) | (simp; done) | (simp; omega)))) ?_ | refine rv0 rfl rfl rfl (y_index_slc Try.underlying88 Try.sizeOf3 rfl rfl (by (repeat (first|exact zH _|apply zT));done) (by (first | omega | (dsimp only; omega) | (simp; done) | (simp; omega)))) ?_
   refine rv0 rfl rfl rfl ((y_load_ro ⟨Try.isAgg3, Try.sizeOf3⟩ rfl (hcell 0 (.int .i64 x) rfl))) ?_
   refine rv0 rfl rfl rfl (y_move rfl) ?_
   refine rv0 rfl rfl rfl (y_eql rfl rfl) ?_
   refine rj_nil ?_
   refine hK8 _ _ _ ?_
   refine cj_env (eL 0 rfl (eL 1 rfl (eL 5 rfl (eL 17 rfl eN)))) ?_
   refine cj_cond rfl (fun hc17 => ?_) (fun hc17 => ?_)
   ·try simp only [dT, dF, nT, nF, tF, fT] at hc17
    refine cj_seq (fun K10 hK10 => ?_)
    refine cj_region ?_
    refine rv0 rfl rfl rfl (y_assign rfl) ?_
    refine rj_nil ?_
    refine hK10 _ _ _ ?_
    refine cj_env (eL 4 rfl eN) ?_
    refine cj_ret ?_
    refine hret _ _ _ ?_
    apply ej_ret Try.results55 (.cons (rv_tmp rfl) .nil) _ [] (by (first | exact Hp.le_refl _ | assumption | exact Hp.le_trans ‹_› ‹_›)) rfl
    case hp => refine ⟨?_, rfl⟩; rw [← decEq, idxI_hit hx hall (by simp; omega)]; simp [tupOf]
    case hS => (repeat (first|exact zR _|(apply zP;focus (repeat (first|exact zH _|apply zT)))|apply zD|exact zA _ _))
   ·try simp only [dT, dF, nT, nF, tF, fT] at hc17
    refine cj_skip ?_
    refine hK7 _ _ _ ?_
    refine cj_region ?_
    refine rv0 rfl rfl rfl (y_move rfl) ?_
    first | refine rv0 rfl rfl rfl (y_add64 rfl rfl (by (first | omega | (dsimp only; omega) | (simp; done) | (simp; omega)))) ?_ | refine rv0 rfl rfl rfl (y_add rfl rfl) ?_
    refine rv0 rfl rfl rfl (y_assign rfl) ?_
    refine rj_nil ?_
    refine ej_on (q' := roundK _ _ _ _ _ _ _) rfl ?_
    refine ej_round (i + 1) (⟨by omega, by rw [List.take_add_one, hx]; simp [hall]; omega⟩) (by omega) (eC rfl (eC rfl (eC rfl eN))) rfl (by (repeat (first|exact zR _|(apply zP;focus (repeat (first|exact zH _|apply zT)))|apply zD|exact zA _ _)))
  ·try simp only [dT, dF, nT, nF, tF, fT] at hc9
   refine cj_exit ?_
   refine hK2 _ _ _ ?_
   refine cj_env eN ?_
   refine cj_seq (fun K11 hK11 => ?_)
   refine cj_region ?_
   refine rv0 rfl rfl rfl (y_assign rfl) ?_
   refine rj_nil ?_
   refine hK11 _ _ _ ?_
   refine cj_ret ?_
   refine hret _ _ _ ?_
   apply ej_ret Try.results55 (.cons (rv_tmp rfl) .nil) _ [] (by (first | exact Hp.le_refl _ | assumption | exact Hp.le_trans ‹_› ‹_›)) rfl
   case hp => refine ⟨?_, rfl⟩; rw [List.take_of_length_le (by omega)] at hall; rw [← decEq, idxI_none hall]; rfl
   case hS => (repeat (first|exact zR _|(apply zP;focus (repeat (first|exact zH _|apply zT)))|apply zD|exact zA _ _))
/-! ### columns -/
theorem place1_q {R : Hp} (c : Cl) (name : Bs) (b : Nat) : QTri Try.prog 79 [.agg ⟨colC c⟩, .pointer (some ⟨b, 0, none⟩)] R [blk b [.string (str name)] 9] (.bool (decide (c.name = name))) := by
  refine Tri.q2 ?_
  unfold colC
  refine tri_of Try.func79 rfl Try.ntmps79 rfl (fun σ F Q hret hend hpan => ?_)
  try simp only [List.cons_append, List.nil_append]
  refine cj_env (eL 0 rfl (eL 1 rfl eN)) ?_
  refine cj_seq (fun K1 hK1 => ?_)
  refine cj_region ?_
  refine rj_box (wn0 rfl) rfl rfl rfl (fun b2 => ?_)
  refine rv0 rfl rfl rfl (y_assign rfl) ?_
  refine rj_nil ?_
  refine hK1 _ _ _ ?_
  refine cj_seq (fun K2 hK2 => ?_)
  refine cj_region ?_
  refine rv0 rfl rfl rfl (y_fieldAddr (k := 0) Try.underlying66 rfl (n := 1) (by decide) Try.sizeOf9 rfl) ?_
  first | refine rv0 rfl rfl rfl (y_load ⟨Try.isAgg9, Try.sizeOf9⟩ rfl (by (repeat (first|exact zH _|apply zT));done) rfl) ?_ | refine rv0 rfl rfl rfl (y_load_slc ⟨Try.isAgg9, Try.sizeOf9⟩ rfl (by (repeat (first|exact zH _|apply zT));done) rfl) ?_
  first | refine rv0 rfl rfl rfl (y_load ⟨Try.isAgg9, Try.sizeOf9⟩ rfl (by (repeat (first|exact zH _|apply zT));done) rfl) ?_ | refine rv0 rfl rfl rfl (y_load_slc ⟨Try.isAgg9, Try.sizeOf9⟩ rfl (by (repeat (first|exact zH _|apply zT));done) rfl) ?_
  refine rv0 rfl rfl rfl (y_seql rfl rfl) ?_
  refine rv0 rfl rfl rfl (y_assign rfl) ?_
  refine rj_nil ?_
  refine hK2 _ _ _ ?_
  refine cj_env (eL 3 rfl eN) ?_
  refine cj_ret ?_
  refine hret _ _ _ ?_
  apply ej_ret Try.results79 (.cons (rv_tmp rfl) .nil) _ [blk b [.string (str name)] 9] (by (first | exact Hp.le_refl _ | assumption | exact Hp.le_trans ‹_› ‹_›)) rfl
  case hp => exact ⟨rfl, rfl⟩
  case hS => (repeat (first|exact zR _|(apply zP;focus (repeat (first|exact zH _|apply zT)))|apply zD|exact zA _ _))
theorem colIndex_q {R : Hp} (l : List Cl) (v : Value) (hl : FrX colE R l v) (name : Bs) (b : Nat) : QTri Try.prog 78 [v, .func (.func 79) ⟨[]⟩ ⟨[.pointer (some ⟨b, 0, none⟩)]⟩] R [blk b [.string (str name)] 9] (.int .i64 (placeC l name)) := by
  obtain ⟨q, cap, rfl, hcap, hcm⟩ := hl.shape
  have hlb : l.length ≤ maxLen := Nat.le_trans hcap hcm
  unfold maxLen at hlb
  refine Tri.q2 ?_
  refine tri_of Try.func78 rfl Try.ntmps78 rfl (fun σ F Q hret hend hpan => ?_)
  try simp only [List.cons_append, List.nil_append]
  refine cj_env (eL 0 rfl (eL 1 rfl eN)) ?_
  refine cj_seq (fun K1 hK1 => ?_)
  refine cj_region ?_
  refine rv0 rfl rfl rfl (y_assign rfl) ?_
  refine rj_nil ?_
  refine hK1 _ _ _ ?_
  refine cj_seq (fun K2 hK2 => ?_)
  refine cj_seq (fun K3 hK3 => ?_)
  refine cj_region ?_
  refine rv0 rfl rfl rfl (y_move rfl) ?_
  first | refine rv0 rfl rfl rfl (y_len_sl Try.underlying35 rfl) ?_ | refine rv0 rfl rfl rfl (y_len_slc Try.underlying35 rfl (by (repeat (first|exact zH _|apply zT));done)) ?_
  refine rv0 rfl rfl rfl (y_move rfl) ?_
  refine rj_nil ?_
  refine hK3 _ _ _ ?_
  refine cj_block ?_
  refine cj_env (E' := (fun (x : Nat) => [(0, .slice q l.length cap), (1, .func (.func 79) ⟨[]⟩ ⟨[.pointer (some ⟨b, 0, none⟩)]⟩), (7, .int .i64 (l.length : Int)), (8, .int .i64 (x : Int))]) 0) (eC rfl (eC rfl (eC rfl (eC rfl eN)))) ?_
  refine cj_sub (M := (fun (x : Nat) => blk b [.string (str name)] 9 :: F) 0) (by (repeat (first|exact zR _|(apply zP;focus (repeat (first|exact zH _|apply zT)))|apply zD|exact zA _ _))) ?_
  refine cj_loop (fun (x : Nat) => [(0, .slice q l.length cap), (1, .func (.func 79) ⟨[]⟩ ⟨[.pointer (some ⟨b, 0, none⟩)]⟩), (7, .int .i64 (l.length : Int)), (8, .int .i64 (x : Int))]) (fun (x : Nat) => R) (fun (x : Nat) => blk b [.string (str name)] 9 :: F) (fun (x : Nat) => x ≤ l.length ∧ (l.take x).any (fun c => decide (c.name = name)) = false) (fun (x : Nat) => l.length - x) 0 (⟨by simp, by simp⟩) ?_
  rintro i ⟨hi, hall⟩
  try dsimp only
  refine cj_seq (fun K4 hK4 => ?_)
  refine cj_region ?_
  refine rv0 rfl rfl rfl (y_lss rfl rfl) ?_
  refine rj_nil ?_
  refine hK4 _ _ _ ?_
  refine cj_seq (fun K5 hK5 => ?_)
  refine cj_cond rfl (fun hc9 => ?_) (fun hc9 => ?_)
  ·try simp only [dT, dF, nT, nF, tF, fT] at hc9
   refine cj_skip ?_
   refine hK5 _ _ _ ?_
   refine cj_seq (fun K7 hK7 => ?_)
   refine cj_block ?_
   refine cj_seq (fun K8 hK8 => ?_)
   refine cj_region ?_
   obtain ⟨x, hx⟩ : ∃ x, l[i]? = some x := ⟨l[i]'(by omega), by simp⟩
   obtain ⟨b', off, cap', cs, he, rfl, hcl, hcell⟩ := hl.at hx
   obtain ⟨rfl, rfl⟩ : q = some ⟨b', off, none⟩ ∧ cap = cap' := by cases he; exact ⟨rfl, rfl⟩
   refine rv0 rfl rfl rfl (y_move rfl) ?_
   refine rv0 rfl rfl rfl (y_assign rfl) ?_
   refine rj_nil ?_
   refine hK8 _ _ _ ?_
   refine cj_seq (fun K9 hK9 => ?_)
   refine cj_region ?_
   refine rv0 rfl rfl rfl (y_move rfl) ?_
   refine rv0 rfl rfl rfl (y_move rfl) ?_
   refine rv0 rfl rfl rfl (y_move rfl) ?_
   first | refine rv0 rfl rfl rfl (y_indexAddr Try.underlying35 Try.sizeOf66 rfl rfl (by (first | omega | (dsimp only; omega) | (simp; done) | (simp; omega)))) ?_ | refine rv0 rfl rfl rfl (y_index_slc Try.underlying35 Try.sizeOf66 rfl rfl (by (repeat (first|exact zH _|apply zT));done) (by (first | omega | (dsimp only; omega) | (simp; done) | (simp; omega)))) ?_
   refine rv0 rfl rfl rfl ((y_loads_ro ⟨Try.isAgg66, Try.sizeOf66⟩ (vs := colC x) rfl rfl (fun j u hj => hcell j u hj))) ?_
   refine rv0 rfl rfl rfl (y_callv rfl Try.call79 rfl (place1_q x name b) (by (repeat (first|exact zN _|(apply zS;focus (repeat (first|exact zH _|apply zT))))))) ?_
   refine rj_nil ?_
   refine hK9 _ _ _ ?_
   refine cj_env (eL 0 rfl (eL 1 rfl (eL 5 rfl (eL 7 rfl (eL 8 rfl (eL 16 rfl eN)))))) ?_
   refine cj_cond rfl (fun hc16 => ?_) (fun hc16 => ?_)
   ·try simp only [dT, dF, nT, nF, tF, fT] at hc16
    refine cj_seq (fun K11 hK11 => ?_)
    refine cj_region ?_
    refine rv0 rfl rfl rfl (y_move rfl) ?_
    refine rv0 rfl rfl rfl (y_assign rfl) ?_
    refine rj_nil ?_
    refine hK11 _ _ _ ?_
    refine cj_env (eL 4 rfl eN) ?_
    refine cj_ret ?_
    refine hret _ _ _ ?_
    apply ej_ret Try.results78 (.cons (rv_tmp rfl) .nil) _ [blk b [.string (str name)] 9] (by (first | exact Hp.le_refl _ | assumption | exact Hp.le_trans ‹_› ‹_›)) rfl
    case hp => refine ⟨?_, rfl⟩; rw [placeC_idx, idxI_hit hx hall (by simpa using hc16)]; rfl
    case hS => (repeat (first|exact zR _|(apply zP;focus (repeat (first|exact zH _|apply zT)))|apply zD|exact zA _ _))
   ·try simp only [dT, dF, nT, nF, tF, fT] at hc16
    refine cj_skip ?_
    refine hK7 _ _ _ ?_
    refine cj_region ?_
    first | refine rv0 rfl rfl rfl (y_add64 rfl rfl (by (first | omega | (dsimp only; omega) | (simp; done) | (simp; omega)))) ?_ | refine rv0 rfl rfl rfl (y_add rfl rfl) ?_
    refine rv0 rfl rfl rfl (y_move rfl) ?_
    refine rj_nil ?_
    refine ej_on (q' := roundK _ _ _ _ _ _ _) rfl ?_
    refine ej_round (i + 1) (⟨by omega, by rw [List.take_add_one, hx]; simp [hall, hc16]⟩) (by omega) (eC rfl (eC rfl (eC rfl (eC rfl eN)))) rfl (by (repeat (first|exact zR _|(apply zP;focus (repeat (first|exact zH _|apply zT)))|apply zD|exact zA _ _)))
  ·try simp only [dT, dF, nT, nF, tF, fT] at hc9
   refine cj_exit ?_
   refine hK2 _ _ _ ?_
   refine cj_env eN ?_
   refine cj_seq (fun K12 hK12 => ?_)
   refine cj_region ?_
   refine rv0 rfl rfl rfl (y_assign rfl) ?_
   refine rj_nil ?_
   refine hK12 _ _ _ ?_
   refine cj_ret ?_
   refine hret _ _ _ ?_
   apply ej_ret Try.results78 (.cons (rv_tmp rfl) .nil) _ [blk b [.string (str name)] 9] (by (first | exact Hp.le_refl _ | assumption | exact Hp.le_trans ‹_› ‹_›)) rfl
   case hp => refine ⟨?_, rfl⟩; rw [List.take_of_length_le (by omega)] at hall; rw [placeC_idx, idxI_none hall]; rfl
   case hS => (repeat (first|exact zR _|(apply zP;focus (repeat (first|exact zH _|apply zT)))|apply zD|exact zA _ _))
theorem place_q {R : Hp} (l : List Cl) (v : Value) (hl : FrX colE R l v) (name : Bs) : QTri Try.prog 53 [v, .string (str name)] R [] (.int .i64 (placeC l name)) := by
  refine Tri.q2 ?_
  refine tri_of Try.func53 rfl Try.ntmps53 rfl (fun σ F Q hret hend hpan => ?_)
  try simp only [List.cons_append, List.nil_append]
  refine cj_env (eL 0 rfl (eL 1 rfl eN)) ?_
  refine cj_seq (fun K1 hK1 => ?_)
  refine cj_region ?_
  refine rj_box (wn0 rfl) rfl rfl rfl (fun b3 => ?_)
  refine rv0 rfl rfl rfl (y_assign rfl) ?_
  refine rj_nil ?_
  refine hK1 _ _ _ ?_
  refine cj_seq (fun K2 hK2 => ?_)
  refine cj_region ?_
  refine rv0 rfl rfl rfl (y_move rfl) ?_
  refine rv0 rfl rfl rfl (y_makeFunc rfl rfl) ?_
  refine rv0 rfl rfl rfl (y_call Try.call78 rfl (colIndex_q l v hl name b3) (by (repeat (first|exact zN _|(apply zS;focus (repeat (first|exact zH _|apply zT))))))) ?_
  refine rv0 rfl rfl rfl (y_assign rfl) ?_
  refine rj_nil ?_
  refine hK2 _ _ _ ?_
  refine cj_env (eL 4 rfl eN) ?_
  refine cj_ret ?_
  refine hret _ _ _ ?_
  apply ej_ret Try.results53 (.cons (rv_tmp rfl) .nil) _ [] (by (first | exact Hp.le_refl _ | assumption | exact Hp.le_trans ‹_› ‹_›)) rfl
  case hp => exact ⟨rfl, rfl⟩
  case hS => (repeat (first|exact zR _|(apply zP;focus (repeat (first|exact zH _|apply zT)))|apply zD|exact zA _ _))
theorem at_q {R : Hp} (l : List Cl) (v : Value) (hl : FrX colE R l v) (name : Bs) : QTri Try.prog 54 [v, .string (str name)] R [] (.int .i64 (placeC l name)) := by
  obtain ⟨q, cap, rfl, hcap, hcm⟩ := hl.shape
  have hlb : l.length ≤ maxLen := Nat.le_trans hcap hcm
  unfold maxLen at hlb
  refine Tri.q2 ?_
  refine tri_of Try.func54 rfl Try.ntmps54 rfl (fun σ F Q hret hend hpan => ?_)
  try simp only [List.cons_append, List.nil_append]
  refine cj_env (eL 0 rfl (eL 1 rfl eN)) ?_
  refine cj_seq (fun K1 hK1 => ?_)
  refine cj_region ?_
  refine rv0 rfl rfl rfl (y_assign rfl) ?_
  refine rj_nil ?_
  refine hK1 _ _ _ ?_
  refine cj_seq (fun K2 hK2 => ?_)
  refine cj_seq (fun K3 hK3 => ?_)
  refine cj_region ?_
  refine rv0 rfl rfl rfl (y_assign rfl) ?_
  refine rj_nil ?_
  refine hK3 _ _ _ ?_
  refine cj_block ?_
  refine cj_env (E' := (fun (x : Nat) => [(0, .slice q l.length cap), (1, .string (str name)), (5, .int .i64 (x : Int))]) 0) (eC rfl (eC rfl (eC rfl eN))) ?_
  refine cj_sub (M := (fun (x : Nat) => F) 0) (by (repeat (first|exact zR _|(apply zP;focus (repeat (first|exact zH _|apply zT)))|apply zD|exact zA _ _))) ?_
  refine cj_loop (fun (x : Nat) => [(0, .slice q l.length cap), (1, .string (str name)), (5, .int .i64 (x : Int))]) (fun (x : Nat) => R) (fun (x : Nat) => F) (fun (x : Nat) => x ≤ l.length ∧ (l.take x).any (fun c => decide (c.name = name)) = false) (fun (x : Nat) => l.length - x) 0 (⟨by simp, by simp⟩) ?_
  rintro i ⟨hi, hall⟩
  try dsimp only
  refine cj_seq (fun K4 hK4 => ?_)
  refine cj_seq (fun K5 hK5 => ?_)
  refine cj_region ?_
  refine rv0 rfl rfl rfl (y_move rfl) ?_
  refine rv0 rfl rfl rfl (y_move rfl) ?_
  first | refine rv0 rfl rfl rfl (y_len_sl Try.underlying35 rfl) ?_ | refine rv0 rfl rfl rfl (y_len_slc Try.underlying35 rfl (by (repeat (first|exact zH _|apply zT));done)) ?_
  refine rv0 rfl rfl rfl (y_lss rfl rfl) ?_
  refine rj_nil ?_
  refine hK5 _ _ _ ?_
  refine cj_env (eL 0 rfl (eL 1 rfl (eL 5 rfl (eL 9 rfl eN)))) ?_
  refine cj_cond rfl (fun hc9 => ?_) (fun hc9 => ?_)
  ·try simp only [dT, dF, nT, nF, tF, fT] at hc9
   refine cj_skip ?_
   refine hK4 _ _ _ ?_
   refine cj_seq (fun K7 hK7 => ?_)
   refine cj_block ?_
   refine cj_seq (fun K8 hK8 => ?_)
   refine cj_region ?_
   obtain ⟨x, hx⟩ : ∃ x, l[i]? = some x := ⟨l[i]'(by omega), by simp⟩
   obtain ⟨b', off, cap', cs, he, rfl, hcl, hcell⟩ := hl.at hx
   obtain ⟨rfl, rfl⟩ : q = some ⟨b', off, none⟩ ∧ cap = cap' := by cases he; exact ⟨rfl, rfl⟩
   refine rv0 rfl rfl rfl (y_move rfl) ?_
   refine rv0 rfl rfl rfl (y_move rfl) ?_
   first | refine rv0 rfl rfl rfl (y_indexAddr Try.underlying35 Try.sizeOf66 rfl rfl (by (first | omega | (dsimp only; omega) | (simp; done) | (simp; omega)))) ?_ | refine rv0 rfl rfl rfl (y_index_slc Try.underlying35 Try.sizeOf66 rfl rfl (by (repeat (first|exact zH _|apply zT));done) (by (first | omega | (dsimp only; omega) | (simp; done) | (simp; omega)))) ?_
   refine rv0 rfl rfl rfl (y_fieldAddr (k := 0) Try.underlying66 rfl (n := 1) (by decide) Try.sizeOf9 rfl) ?_
   refine rv0 rfl rfl rfl ((y_load_ro ⟨Try.isAgg9, Try.sizeOf9⟩ rfl (hcell 0 (.string (str x.name)) rfl))) ?_
   refine rv0 rfl rfl rfl (y_move rfl) ?_
   refine rv0 rfl rfl rfl (y_seql rfl rfl) ?_
   refine rj_nil ?_
   refine hK8 _ _ _ ?_
   refine cj_env (eL 0 rfl (eL 1 rfl (eL 5 rfl (eL 18 rfl eN)))) ?_
   refine cj_cond rfl (fun hc18 => ?_) (fun hc18 => ?_)
   ·try simp only [dT, dF, nT, nF, tF, fT] at hc18
    refine cj_seq (fun K10 hK10 => ?_)
    refine cj_region ?_
    refine rv0 rfl rfl rfl (y_move rfl) ?_
    refine rv0 rfl rfl rfl (y_assign rfl) ?_
    refine rj_nil ?_
    refine hK10 _ _ _ ?_
    refine cj_env (eL 4 rfl eN) ?_
    refine cj_ret ?_
    refine hret _ _ _ ?_
    apply ej_ret Try.results54 (.cons (rv_tmp rfl) .nil) _ [] (by (first | exact Hp.le_refl _ | assumption | exact Hp.le_trans ‹_› ‹_›)) rfl
    case hp => refine ⟨?_, rfl⟩; rw [placeC_idx, idxI_hit hx hall (by simpa using hc18)]; rfl
    case hS => (repeat (first|exact zR _|(apply zP;focus (repeat (first|exact zH _|apply zT)))|apply zD|exact zA _ _))
   ·try simp only [dT, dF, nT, nF, tF, fT] at hc18
    refine cj_skip ?_
    refine hK7 _ _ _ ?_
    refine cj_region ?_
    refine rv0 rfl rfl rfl (y_move rfl) ?_
    first | refine rv0 rfl rfl rfl (y_add64 rfl rfl (by (first | omega | (dsimp only; omega) | (simp; done) | (simp; omega)))) ?_ | refine rv0 rfl rfl rfl (y_add rfl rfl) ?_
    refine rv0 rfl rfl rfl (y_assign rfl) ?_
    refine rj_nil ?_
    refine ej_on (q' := roundK _ _ _ _ _ _ _) rfl ?_
    refine ej_round (i + 1) (⟨by omega, by rw [List.take_add_one, hx]; simp [hall, hc18]⟩) (by omega) (eC rfl (eC rfl (eC rfl eN))) rfl (by (repeat (first|exact zR _|(apply zP;focus (repeat (first|exact zH _|apply zT)))|apply zD|exact zA _ _)))
  ·try simp only [dT, dF, nT, nF, tF, fT] at hc9
   refine cj_exit ?_
   refine hK2 _ _ _ ?_
   refine cj_env eN ?_
   refine cj_seq (fun K11 hK11 => ?_)
   refine cj_region ?_
   refine rv0 rfl rfl rfl (y_assign rfl) ?_
   refine rj_nil ?_
   refine hK11 _ _ _ ?_
   refine cj_ret ?_
   refine hret _ _ _ ?_
   apply ej_ret Try.results54 (.cons (rv_tmp rfl) .nil) _ [] (by (first | exact Hp.le_refl _ | assumption | exact Hp.le_trans ‹_› ‹_›)) rfl
   case hp => refine ⟨?_, rfl⟩; rw [List.take_of_length_le (by omega)] at hall; rw [placeC_idx, idxI_none hall]; rfl
   case hS => (repeat (first|exact zR _|(apply zP;focus (repeat (first|exact zH _|apply zT)))|apply zD|exact zA _ _))
end V
end Go.Proofs.Ytghgifgmacapcaa
