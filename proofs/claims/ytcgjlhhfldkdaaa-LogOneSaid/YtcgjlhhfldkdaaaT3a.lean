/- How a node lies in memory; what is right, what is the same. -/
import Derived.Test.YtcgjlhhfldkdaaaT3p
import Derived.Test.YtcgjlhhfldkdaaaV11
import Derived.Test.YtcgjlhhfldkdaaaProg
import Derived.KernelRfl
set_option linter.unusedSimpArgs false
set_option linter.unusedVariables false
set_option maxRecDepth 100000
namespace Go.Proofs.Ytcgjlhhfldkdaaa
open Go.RowKit
namespace V
def big : Nat := 1000000000000
/-- a node's cells, and what lies behind them in memory that no longer changes -/
inductive RepN (R : Hp) : Nd → List Value → Prop
  | mk {k : Int} {n : Nat} {s : List UInt8} {l : List Nd} {q : Option Addr} {cap : Nat} (css : List (List Value)) : s.length ≤ big → l.length ≤ big → css.length = l.length → l.length ≤ cap → cap ≤ maxLen →
      (∀ (i : Nat) (x : Nd) (cs : List Value), l[i]? = some x → css[i]? = some cs → cs.length = 4) → (∀ (i : Nat) (x : Nd) (cs : List Value), l[i]? = some x → css[i]? = some cs → RepN R x cs) →
      (l = [] ∨ ∃ b off, q = some ⟨b, off, none⟩ ∧ ∀ (i : Nat) (cs : List Value) (j : Nat) (u : Value), css[i]? = some cs → cs[j]? = some u → Hp.cell R ⟨b, off + i * 4 + j, none⟩ = some u) →
      RepN R (.mk k n s l) [.int .i64 k, .int .u64 (n : Int), .string (str s), .slice q l.length cap]
def RepL (R : Hp) (l : List Nd) (q : Option Addr) (cap : Nat) : Prop := ∃ css : List (List Value), l.length ≤ big ∧ css.length = l.length ∧ l.length ≤ cap ∧ cap ≤ maxLen ∧
  (∀ (i : Nat) (x : Nd) (cs : List Value), l[i]? = some x → css[i]? = some cs → cs.length = 4) ∧ (∀ (i : Nat) (x : Nd) (cs : List Value), l[i]? = some x → css[i]? = some cs → RepN R x cs) ∧
  (l = [] ∨ ∃ b off, q = some ⟨b, off, none⟩ ∧ ∀ (i : Nat) (cs : List Value) (j : Nat) (u : Value), css[i]? = some cs → cs[j]? = some u → Hp.cell R ⟨b, off + i * 4 + j, none⟩ = some u)
theorem RepN.mono {R R' : Hp} (hR : R.le R') {x : Nd} {cs : List Value} (h : RepN R x cs) : RepN R' x cs := by
  induction h with
  | mk css h1 h2 h3 h4 h5 h6 _ h8 ih =>
    refine .mk css h1 h2 h3 h4 h5 h6 ih ?_
    rcases h8 with h | ⟨b, off, hq, hc⟩
    · exact .inl h
    · exact .inr ⟨b, off, hq, fun i cs j u hi hj => by
        have e := hc i cs j u hi hj
        unfold Hp.cell at *
        cases hb : R b with
        | none => simp [hb] at e
        | some o => simp only [hb] at e; simp only [hR _ _ hb]; exact e⟩
theorem RepN.inv {R : Hp} {x : Nd} {cs : List Value} (h : RepN R x cs) : ∃ k n s l q cap, x = .mk k n s l ∧ cs = [.int .i64 k, .int .u64 ((n : Nat) : Int), .string (str s), .slice q l.length cap] ∧ s.length ≤ big ∧ RepL R l q cap := by
  cases h with
  | mk css h1 h2 h3 h4 h5 h6 h7 h8 => exact ⟨_, _, _, _, _, _, rfl, rfl, h1, css, h2, h3, h4, h5, h6, h7, h8⟩
theorem RepL.node {R : Hp} {k : Int} {n : Nat} {s : List UInt8} {l : List Nd} {q : Option Addr} {cap : Nat} (hs : s.length ≤ big) (h : RepL R l q cap) : RepN R (.mk k n s l) [.int .i64 k, .int .u64 (n : Int), .string (str s), .slice q l.length cap] := by
  obtain ⟨css, h2, h3, h4, h5, h6, h7, h8⟩ := h
  exact .mk css hs h2 h3 h4 h5 h6 h7 h8
theorem RepL.nil (R : Hp) : RepL R [] none 0 := ⟨[], by simp, rfl, by simp, by simp [maxLen], by simp, by simp, .inl rfl⟩
theorem RepL.at {R : Hp} {l : List Nd} {q : Option Addr} {cap : Nat} (h : RepL R l q cap) {i : Nat} {x : Nd} (hx : l[i]? = some x) : ∃ b off cs, q = some ⟨b, off, none⟩ ∧ cs.length = 4 ∧ RepN R x cs ∧ ∀ (j : Nat) u, cs[j]? = some u → Hp.cell R ⟨b, off + i * 4 + j, none⟩ = some u := by
  obtain ⟨css, h2, h3, h4, h5, h6, h7, h8⟩ := h
  have hi : i < l.length := (List.getElem?_eq_some_iff.1 hx).1
  have hc : css[i]? = some (css[i]'(by omega)) := by simp [h3, hi]
  rcases h8 with rfl | ⟨b, off, hq, hcell⟩
  · simp at hi
  · exact ⟨b, off, css[i]'(by omega), hq, h6 i x _ hx hc, h7 i x _ hx hc, fun j u hj => hcell i _ j u hc hj⟩
set_option maxHeartbeats 1000000
theorem emptyB (l : List Nd) : decide (l = []) = l.isEmpty := by cases l <;> rfl
theorem anyNot (l : List Nd) (f : Nd → Bool) : (l.any fun y => !f y) = !l.all f := by rw [List.all_eq_not_any_not, Bool.not_not]
/-! ### right -/
theorem right1_q {R : Hp} (e bd : Nat) (y : Nd) (cy : List Value) (h : RepN R y cy) (he : e ≤ 20) (hr : QTri Try.prog 52 [.agg ⟨cy⟩, .int .i64 (e : Int)] R [] (.bool (rightB e y))) :
    QTri Try.prog 58 [.agg ⟨cy⟩, .pointer (some ⟨bd, 0, none⟩)] R [blk bd [.int .i64 ((e + 1 : Nat) : Int)] 3] (.bool (!rightB e y)) := by
  obtain ⟨k, n, s, l, q, cap, rfl, rfl, hs, hl⟩ := h.inv
  refine Tri.q ?_
  refine tri_of Try.func58 rfl Try.ntmps58 rfl (fun σ F Q hret hend hpan => ?_)
  try simp only [List.cons_append, List.nil_append]
  refine cj_env (eL 0 rfl (eL 1 rfl eN)) ?_
  refine cj_seq (fun K1 hK1 => ?_)
  refine cj_region ?_
  refine rj_box (wn0 rfl) rfl rfl rfl (fun b2 => ?_)
  refine rv0 rfl rfl rfl (y_assign rfl) ?_
  refine rj_nil ?_
  refine hK1 _ _ _ ?_
  refine cj_seq (fun K2 hK2 => ?_)
  refine cj_region ?_
  first | refine rv0 rfl rfl rfl (y_loads_blk ⟨Try.isAgg62, Try.sizeOf62⟩ rfl (by (repeat (first|exact zH _|apply zT));done) rfl rfl) ?_ | refine rv0 rfl rfl rfl (y_loads_slc ⟨Try.isAgg62, Try.sizeOf62⟩ rfl (by (repeat (first|exact zH _|apply zT));done) rfl rfl (by (first | omega | (dsimp only; omega) | (simp; done) | (simp; omega)))) ?_
  first | refine rv0 rfl rfl rfl (y_load ⟨Try.isAgg3, Try.sizeOf3⟩ rfl (by (repeat (first|exact zH _|apply zT));done) rfl) ?_ | refine rv0 rfl rfl rfl (y_load_slc ⟨Try.isAgg3, Try.sizeOf3⟩ rfl (by (repeat (first|exact zH _|apply zT));done) rfl) ?_
  first | refine rv0 rfl rfl rfl (y_sub64 rfl rfl (by (first | omega | (dsimp only; omega) | (simp; done) | (simp; omega)))) ?_ | refine rv0 rfl rfl rfl (y_sub rfl rfl) ?_
  refine rj_eq 6 rfl (v' := .int .i64 (e : Int)) (by congr 1; omega) ?_
  refine rv0 rfl rfl rfl (y_call Try.call52 rfl (hr) (by (repeat (first|exact zN _|(apply zS;focus (repeat (first|exact zH _|apply zT))))))) ?_
  refine rv0 rfl rfl rfl (y_not rfl) ?_
  refine rv0 rfl rfl rfl (y_assign rfl) ?_
  refine rj_nil ?_
  refine hK2 _ _ _ ?_
  refine cj_env (eL 3 rfl eN) ?_
  refine cj_ret ?_
  refine hret _ _ _ ?_
  apply ej_ret Try.results58 (.cons (rv_tmp rfl) .nil) _ [blk bd [.int .i64 ((e + 1 : Nat) : Int)] 3] (by (first | exact Hp.le_refl _ | assumption | exact Hp.le_trans ‹_› ‹_›)) rfl
  case hp => exact ⟨rfl, rfl, rfl⟩
  case hS => (repeat (first|exact zR _|(apply zP;focus (repeat (first|exact zH _|apply zT)))|apply zD|exact zA _ _))
theorem indexFunc_t {R : Hp} (l : List Nd) (q : Option Addr) (cap : Nat) (hl : RepL R l q cap) (bd : Nat) (D : Asn) (p : Nd → Bool)
    (hcall : ∀ x cs, x ∈ l → RepN R x cs → QTri Try.prog 58 [.agg ⟨cs⟩, .pointer (some ⟨bd, 0, none⟩)] R [D] (.bool (p x))) :
    Tri Try.prog 60 [.slice q l.length cap, .func (.func 58) ⟨[]⟩ ⟨[.pointer (some ⟨bd, 0, none⟩)]⟩] R [D]
      (fun v R' L' => R = R' ∧ (∃ z : Int, v = .int .i64 z ∧ (z ≥ 0 ↔ l.any p = true)) ∧ L' = [D]) := by
  have hlb : l.length ≤ big := hl.choose_spec.1
  unfold big at hlb
  refine tri_of Try.func60 rfl Try.ntmps60 rfl (fun σ F Q hret hend hpan => ?_)
  try simp only [List.cons_append, List.nil_append]
  refine cj_env (eL 0 rfl (eL 1 rfl eN)) ?_
  refine cj_seq (fun K1 hK1 => ?_)
  refine cj_region ?_
  refine rv0 rfl rfl rfl (y_assign rfl) ?_
  refine rj_nil ?_
  refine hK1 _ _ _ ?_
  refine cj_seq (fun K2 hK2 => ?_)
  refine cj_seq (fun K3 hK3 => ?_)
  refine cj_region ?_
  refine rv0 rfl rfl rfl (y_move rfl) ?_
  first | refine rv0 rfl rfl rfl (y_len_sl Try.underlying60 rfl) ?_ | refine rv0 rfl rfl rfl (y_len_slc Try.underlying60 rfl (by (repeat (first|exact zH _|apply zT));done)) ?_
  refine rv0 rfl rfl rfl (y_move rfl) ?_
  refine rj_nil ?_
  refine hK3 _ _ _ ?_
  refine cj_block ?_
  refine cj_env (E' := (fun (x : Nat) => [(0, .slice q l.length cap), (1, .func (.func 58) ⟨[]⟩ ⟨[.pointer (some ⟨bd, 0, none⟩)]⟩), (7, .int .i64 (l.length : Int)), (8, .int .i64 (x : Int))]) 0) (eC rfl (eC rfl (eC rfl (eC rfl eN)))) ?_
  refine cj_sub (M := (fun (x : Nat) => D :: F) 0) (by (repeat (first|exact zR _|(apply zP;focus (repeat (first|exact zH _|apply zT)))|apply zD|exact zA _ _))) ?_
  refine cj_loop (fun (x : Nat) => [(0, .slice q l.length cap), (1, .func (.func 58) ⟨[]⟩ ⟨[.pointer (some ⟨bd, 0, none⟩)]⟩), (7, .int .i64 (l.length : Int)), (8, .int .i64 (x : Int))]) (fun (x : Nat) => R) (fun (x : Nat) => D :: F) (fun (x : Nat) => x ≤ l.length ∧ (l.take x).any p = false) (fun (x : Nat) => l.length - x) 0 (⟨by simp, by simp⟩) ?_
  rintro i ⟨hi, hall⟩
  try dsimp only
  refine cj_seq (fun K4 hK4 => ?_)
  refine cj_region ?_
  refine rv0 rfl rfl rfl (y_lss rfl rfl) ?_
  refine rj_nil ?_
  refine hK4 _ _ _ ?_
  refine cj_seq (fun K5 hK5 => ?_)
  refine cj_cond rfl (fun hc9 => ?_) (fun hc9 => ?_)
  ·try simp only [dT, dF, nT, nF, tF, fT] at hc9
   refine cj_skip ?_
   refine hK5 _ _ _ ?_
   refine cj_seq (fun K7 hK7 => ?_)
   refine cj_block ?_
   refine cj_seq (fun K8 hK8 => ?_)
   refine cj_region ?_
   obtain ⟨x, hx⟩ : ∃ x, l[i]? = some x := ⟨l[i]'(by omega), by simp⟩
   obtain ⟨b, off, cs, rfl, hc4, hrep, hcell⟩ := hl.at hx
   refine rv0 rfl rfl rfl (y_move rfl) ?_
   refine rv0 rfl rfl rfl (y_assign rfl) ?_
   refine rj_nil ?_
   refine hK8 _ _ _ ?_
   refine cj_seq (fun K9 hK9 => ?_)
   refine cj_region ?_
   refine rv0 rfl rfl rfl (y_move rfl) ?_
   refine rv0 rfl rfl rfl (y_move rfl) ?_
   refine rv0 rfl rfl rfl (y_move rfl) ?_
   first | refine rv0 rfl rfl rfl (y_indexAddr Try.underlying60 Try.sizeOf62 rfl rfl (by (first | omega | (dsimp only; omega) | (simp; done) | (simp; omega)))) ?_ | refine rv0 rfl rfl rfl (y_index_slc Try.underlying60 Try.sizeOf62 rfl rfl (by (repeat (first|exact zH _|apply zT));done) (by (first | omega | (dsimp only; omega) | (simp; done) | (simp; omega)))) ?_
   refine rv0 rfl rfl rfl ((y_loads_ro ⟨Try.isAgg62, Try.sizeOf62⟩ (vs := cs) hc4 rfl (fun j u hj => by simpa using hcell j u hj))) ?_
   refine rv0 rfl rfl rfl (y_callv rfl Try.call58 rfl (hcall x cs (List.mem_of_getElem? hx) hrep) (by (repeat (first|exact zN _|(apply zS;focus (repeat (first|exact zH _|apply zT))))))) ?_
   refine rj_nil ?_
   refine hK9 _ _ _ ?_
   refine cj_env (eL 0 rfl (eL 1 rfl (eL 5 rfl (eL 7 rfl (eL 8 rfl (eL 16 rfl eN)))))) ?_
   refine cj_cond rfl (fun hc16 => ?_) (fun hc16 => ?_)
   ·try simp only [dT, dF, nT, nF, tF, fT] at hc16
    refine cj_seq (fun K11 hK11 => ?_)
    refine cj_region ?_
    refine rv0 rfl rfl rfl (y_move rfl) ?_
    refine rv0 rfl rfl rfl (y_assign rfl) ?_
    refine rj_nil ?_
    refine hK11 _ _ _ ?_
    refine cj_env (eL 4 rfl eN) ?_
    refine cj_ret ?_
    refine hret _ _ _ ?_
    apply ej_ret Try.results60 (.cons (rv_tmp rfl) .nil) _ [D] (by (first | exact Hp.le_refl _ | assumption | exact Hp.le_trans ‹_› ‹_›)) rfl
    case hp => refine ⟨rfl, ⟨_, rfl, ?_⟩, rfl⟩; simp; exact ⟨x, List.mem_of_getElem? hx, hc16⟩
    case hS => (repeat (first|exact zR _|(apply zP;focus (repeat (first|exact zH _|apply zT)))|apply zD|exact zA _ _))
   ·try simp only [dT, dF, nT, nF, tF, fT] at hc16
    refine cj_skip ?_
    refine hK7 _ _ _ ?_
    refine cj_region ?_
    first | refine rv0 rfl rfl rfl (y_add64 rfl rfl (by (first | omega | (dsimp only; omega) | (simp; done) | (simp; omega)))) ?_ | refine rv0 rfl rfl rfl (y_add rfl rfl) ?_
    refine rv0 rfl rfl rfl (y_move rfl) ?_
    refine rj_nil ?_
    refine ej_on (q' := roundK _ _ _ _ _ _ _) rfl ?_
    refine ej_round (i + 1) (⟨by omega, by rw [List.take_add_one, hx]; simp [hall, hc16]⟩) (by omega) (eC rfl (eC rfl (eC rfl (eC rfl eN)))) rfl (by (repeat (first|exact zR _|(apply zP;focus (repeat (first|exact zH _|apply zT)))|apply zD|exact zA _ _)))
  ·try simp only [dT, dF, nT, nF, tF, fT] at hc9
   refine cj_exit ?_
   refine hK2 _ _ _ ?_
   refine cj_env eN ?_
   refine cj_seq (fun K12 hK12 => ?_)
   refine cj_region ?_
   refine rv0 rfl rfl rfl (y_assign rfl) ?_
   refine rj_nil ?_
   refine hK12 _ _ _ ?_
   refine cj_ret ?_
   refine hret _ _ _ ?_
   apply ej_ret Try.results60 (.cons (rv_tmp rfl) .nil) _ [D] (by (first | exact Hp.le_refl _ | assumption | exact Hp.le_trans ‹_› ‹_›)) rfl
   case hp => refine ⟨rfl, ⟨_, rfl, ?_⟩, rfl⟩; rw [List.take_of_length_le (by omega)] at hall; rw [hall]; simp
   case hS => (repeat (first|exact zR _|(apply zP;focus (repeat (first|exact zH _|apply zT)))|apply zD|exact zA _ _))
theorem containsFunc_t {R : Hp} (l : List Nd) (q : Option Addr) (cap : Nat) (hl : RepL R l q cap) (bd : Nat) (D : Asn) (p : Nd → Bool)
    (hcall : ∀ x cs, x ∈ l → RepN R x cs → QTri Try.prog 58 [.agg ⟨cs⟩, .pointer (some ⟨bd, 0, none⟩)] R [D] (.bool (p x))) :
    Tri Try.prog 57 [.slice q l.length cap, .func (.func 58) ⟨[]⟩ ⟨[.pointer (some ⟨bd, 0, none⟩)]⟩] R [D]
      (fun v R' L' => R = R' ∧ v = .bool (l.any p) ∧ L' = [D]) := by
  refine tri_of Try.func57 rfl Try.ntmps57 rfl (fun σ F Q hret hend hpan => ?_)
  try simp only [List.cons_append, List.nil_append]
  refine cj_env (eL 0 rfl (eL 1 rfl eN)) ?_
  refine cj_seq (fun K1 hK1 => ?_)
  refine cj_region ?_
  refine rv0 rfl rfl rfl (y_assign rfl) ?_
  refine rj_nil ?_
  refine hK1 _ _ _ ?_
  refine cj_seq (fun K2 hK2 => ?_)
  refine cj_region ?_
  refine rv0 rfl rfl rfl (y_move rfl) ?_
  refine rv0 rfl rfl rfl (y_move rfl) ?_
  refine rj_call (wn0 rfl) rfl Try.call60 rfl (indexFunc_t l q cap hl bd D p hcall) (by (repeat (first|exact zN _|(apply zS;focus (repeat (first|exact zH _|apply zT)))))) (fun _ _ _ _ h => h.elim) ?_
  rintro v R' L' hR ⟨rfl, ⟨z, rfl, hz⟩, rfl⟩
  try simp only [List.cons_append, List.nil_append]
  refine rv0 rfl rfl rfl (y_geq rfl rfl) ?_
  refine rj_eq 8 rfl (v' := .bool (l.any p)) (by congr 1; rw [Bool.eq_iff_iff]; simpa using hz) ?_
  refine rv0 rfl rfl rfl (y_assign rfl) ?_
  refine rj_nil ?_
  refine hK2 _ _ _ ?_
  refine cj_env (eL 4 rfl eN) ?_
  refine cj_ret ?_
  refine hret _ _ _ ?_
  apply ej_ret Try.results57 (.cons (rv_tmp rfl) .nil) _ [D] (by (first | exact Hp.le_refl _ | assumption | exact Hp.le_trans ‹_› ‹_›)) rfl
  case hp => exact ⟨rfl, rfl, rfl⟩
  case hS => (repeat (first|exact zR _|(apply zP;focus (repeat (first|exact zH _|apply zT)))|apply zD|exact zA _ _))
theorem right_q (d : Nat) : ∀ (x : Nd) (cs : List Value) {R : Hp}, RepN R x cs → d ≤ 20 → QTri Try.prog 52 [.agg ⟨cs⟩, .int .i64 (d : Int)] R [] (.bool (rightB d x)) := by
  induction d using Nat.strongRecOn with
  | _ d ih =>
  intro x cs R h hd
  obtain ⟨k, n, s, l, q, cap, rfl, rfl, hs, hl⟩ := h.inv
  refine Tri.q ?_
  refine tri_of Try.func52 rfl Try.ntmps52 rfl (fun σ F Q hret hend hpan => ?_)
  try simp only [List.cons_append, List.nil_append]
  refine cj_env (eL 0 rfl (eL 1 rfl eN)) ?_
  refine cj_seq (fun K1 hK1 => ?_)
  refine cj_region ?_
  refine rj_box (wn0 rfl) rfl rfl rfl (fun b2 => ?_)
  refine rj_box (wn0 rfl) rfl rfl rfl (fun bd => ?_)
  refine rv0 rfl rfl rfl (y_assign rfl) ?_
  refine rj_nil ?_
  refine hK1 _ _ _ ?_
  refine cj_env (eL 2 rfl (eL 3 rfl eN)) ?_
  refine cj_seq (fun K2 hK2 => ?_)
  refine cj_seq (fun K3 hK3 => ?_)
  refine cj_region ?_
  first | refine rv0 rfl rfl rfl (y_load ⟨Try.isAgg3, Try.sizeOf3⟩ rfl (by (repeat (first|exact zH _|apply zT));done) rfl) ?_ | refine rv0 rfl rfl rfl (y_load_slc ⟨Try.isAgg3, Try.sizeOf3⟩ rfl (by (repeat (first|exact zH _|apply zT));done) rfl) ?_
  refine rv0 rfl rfl rfl (y_eql rfl rfl) ?_
  refine rj_nil ?_
  refine hK3 _ _ _ ?_
  refine cj_cond rfl (fun hc6 => ?_) (fun hc6 => ?_)
  ·try simp only [dT, dF, nT, nF, tF, fT] at hc6
   refine cj_seq (fun K5 hK5 => ?_)
   refine cj_region ?_
   refine rv0 rfl rfl rfl (y_assign rfl) ?_
   refine rj_nil ?_
   refine hK5 _ _ _ ?_
   refine cj_env (eL 4 rfl eN) ?_
   refine cj_ret ?_
   refine hret _ _ _ ?_
   apply ej_ret Try.results52 (.cons (rv_tmp rfl) .nil) _ [] (by (first | exact Hp.le_refl _ | assumption | exact Hp.le_trans ‹_› ‹_›)) rfl
   case hp =>
    refine ⟨?_, rfl, rfl⟩; obtain rfl : d = 0 := by omega
    simp [rightB, tupOf]
   case hS => (repeat (first|exact zR _|(apply zP;focus (repeat (first|exact zH _|apply zT)))|apply zD|exact zA _ _))
  ·(try simp only [dT, dF, nT, nF, tF, fT] at hc6); obtain ⟨e, rfl⟩ : ∃ e, d = e + 1 := ⟨d - 1, by omega⟩
   refine cj_skip ?_
   refine hK2 _ _ _ ?_
   refine cj_seq (fun K6 hK6 => ?_)
   refine cj_seq (fun K7 hK7 => ?_)
   refine cj_region ?_
   refine rv0 rfl rfl rfl (y_fieldAddr (k := 0) Try.underlying62 rfl (n := 1) (by decide) Try.sizeOf3 rfl) ?_
   first | refine rv0 rfl rfl rfl (y_load ⟨Try.isAgg3, Try.sizeOf3⟩ rfl (by (repeat (first|exact zH _|apply zT));done) rfl) ?_ | refine rv0 rfl rfl rfl (y_load_slc ⟨Try.isAgg3, Try.sizeOf3⟩ rfl (by (repeat (first|exact zH _|apply zT));done) rfl) ?_
   refine rj_nil ?_
   refine hK7 _ _ _ ?_
   refine cj_env (eL 2 rfl (eL 3 rfl (eL 8 rfl eN))) ?_
   refine cj_block ?_
   refine cj_seq (fun K8 hK8 => ?_)
   refine cj_region ?_
   refine rv0 rfl rfl rfl (y_eql rfl rfl) ?_
   refine rv0 rfl rfl rfl (y_assign rfl) ?_
   refine rj_nil ?_
   refine hK8 _ _ _ ?_
   refine cj_cond rfl (fun hc9 => ?_) (fun hc9 => ?_)
   ·try simp only [dT, dF, nT, nF, tF, fT] at hc9
    refine cj_seq (fun K10 hK10 => ?_)
    refine cj_region ?_
    refine rv0 rfl rfl rfl (y_fieldAddr (k := 2) Try.underlying62 rfl (n := 1) (by decide) Try.sizeOf9 rfl) ?_
    first | refine rv0 rfl rfl rfl (y_load ⟨Try.isAgg9, Try.sizeOf9⟩ rfl (by (repeat (first|exact zH _|apply zT));done) rfl) ?_ | refine rv0 rfl rfl rfl (y_load_slc ⟨Try.isAgg9, Try.sizeOf9⟩ rfl (by (repeat (first|exact zH _|apply zT));done) rfl) ?_
    refine rv0 rfl rfl rfl (y_seql rfl rfl) ?_
    refine rv0 rfl rfl rfl (y_move rfl) ?_
    refine rj_part 14 rfl (fun hg14 => ?_) (fun hg14 => ?_)
    ·try simp only [dT, dF, nT, nF, tF, fT] at hg14
     refine rj_val (wn1 rfl rfl rfl rfl) rfl rfl (y_fieldAddr (k := 3) Try.underlying62 rfl (n := 1) (by decide) Try.sizeOf60 rfl) ?_
     first | refine rj_val (wn1 rfl rfl rfl rfl) rfl rfl (y_load ⟨Try.isAgg60, Try.sizeOf60⟩ rfl (by (repeat (first|exact zH _|apply zT));done) rfl) ?_ | refine rj_val (wn1 rfl rfl rfl rfl) rfl rfl (y_load_slc ⟨Try.isAgg60, Try.sizeOf60⟩ rfl (by (repeat (first|exact zH _|apply zT));done) rfl) ?_
     first | refine rj_val (wn1 rfl rfl rfl rfl) rfl rfl (y_len_sl Try.underlying60 rfl) ?_ | refine rj_val (wn1 rfl rfl rfl rfl) rfl rfl (y_len_slc Try.underlying60 rfl (by (repeat (first|exact zH _|apply zT));done)) ?_
     refine rj_val (wn1 rfl rfl rfl rfl) rfl rfl (y_eql rfl rfl) ?_
     refine rv0 rfl rfl rfl (y_pick_t rfl rfl) ?_
     refine rv0 rfl rfl rfl (y_assign rfl) ?_
     refine rj_nil ?_
     refine hK10 _ _ _ ?_
     refine cj_env (eL 4 rfl eN) ?_
     refine cj_ret ?_
     refine hret _ _ _ ?_
     apply ej_ret Try.results52 (.cons (rv_tmp rfl) .nil) _ [] (by (first | exact Hp.le_refl _ | assumption | exact Hp.le_trans ‹_› ‹_›)) rfl
     case hp => refine ⟨?_, rfl, rfl⟩; simp_all [rightB, tupOf] <;> first | exact emptyB _ | exact anyNot _ _
     case hS => (repeat (first|exact zR _|(apply zP;focus (repeat (first|exact zH _|apply zT)))|apply zD|exact zA _ _))
    ·try simp only [dT, dF, nT, nF, tF, fT] at hg14
     refine rj_skip (wn2 rfl rfl rfl rfl rfl) rfl rfl ?_
     refine rj_skip (wn2 rfl rfl rfl rfl rfl) rfl rfl ?_
     refine rj_skip (wn2 rfl rfl rfl rfl rfl) rfl rfl ?_
     refine rj_skip (wn2 rfl rfl rfl rfl rfl) rfl rfl ?_
     refine rv0 rfl rfl rfl (y_pick_f rfl rfl) ?_
     refine rv0 rfl rfl rfl (y_assign rfl) ?_
     refine rj_nil ?_
     refine hK10 _ _ _ ?_
     refine cj_env (eL 4 rfl eN) ?_
     refine cj_ret ?_
     refine hret _ _ _ ?_
     apply ej_ret Try.results52 (.cons (rv_tmp rfl) .nil) _ [] (by (first | exact Hp.le_refl _ | assumption | exact Hp.le_trans ‹_› ‹_›)) rfl
     case hp => refine ⟨?_, rfl, rfl⟩; simp_all [rightB, tupOf] <;> first | exact emptyB _ | exact anyNot _ _
     case hS => (repeat (first|exact zR _|(apply zP;focus (repeat (first|exact zH _|apply zT)))|apply zD|exact zA _ _))
   ·try simp only [dT, dF, nT, nF, tF, fT] at hc9
    refine cj_seq (fun K11 hK11 => ?_)
    refine cj_region ?_
    refine rv0 rfl rfl rfl (y_eql rfl rfl) ?_
    refine rv0 rfl rfl rfl (y_assign rfl) ?_
    refine rj_nil ?_
    refine hK11 _ _ _ ?_
    refine cj_env (eL 2 rfl (eL 3 rfl (eL 8 rfl (eL 20 rfl eN)))) ?_
    refine cj_cond rfl (fun hc20 => ?_) (fun hc20 => ?_)
    ·try simp only [dT, dF, nT, nF, tF, fT] at hc20
     refine cj_seq (fun K13 hK13 => ?_)
     refine cj_region ?_
     refine rv0 rfl rfl rfl (y_fieldAddr (k := 1) Try.underlying62 rfl (n := 1) (by decide) Try.sizeOf25 rfl) ?_
     first | refine rv0 rfl rfl rfl (y_load ⟨Try.isAgg25, Try.sizeOf25⟩ rfl (by (repeat (first|exact zH _|apply zT));done) rfl) ?_ | refine rv0 rfl rfl rfl (y_load_slc ⟨Try.isAgg25, Try.sizeOf25⟩ rfl (by (repeat (first|exact zH _|apply zT));done) rfl) ?_
     refine rv0 rfl rfl rfl (y_eql rfl rfl) ?_
     refine rv0 rfl rfl rfl (y_move rfl) ?_
     refine rj_part 25 rfl (fun hg25 => ?_) (fun hg25 => ?_)
     ·try simp only [dT, dF, nT, nF, tF, fT] at hg25
      refine rj_val (wn1 rfl rfl rfl rfl) rfl rfl (y_fieldAddr (k := 3) Try.underlying62 rfl (n := 1) (by decide) Try.sizeOf60 rfl) ?_
      first | refine rj_val (wn1 rfl rfl rfl rfl) rfl rfl (y_load ⟨Try.isAgg60, Try.sizeOf60⟩ rfl (by (repeat (first|exact zH _|apply zT));done) rfl) ?_ | refine rj_val (wn1 rfl rfl rfl rfl) rfl rfl (y_load_slc ⟨Try.isAgg60, Try.sizeOf60⟩ rfl (by (repeat (first|exact zH _|apply zT));done) rfl) ?_
      first | refine rj_val (wn1 rfl rfl rfl rfl) rfl rfl (y_len_sl Try.underlying60 rfl) ?_ | refine rj_val (wn1 rfl rfl rfl rfl) rfl rfl (y_len_slc Try.underlying60 rfl (by (repeat (first|exact zH _|apply zT));done)) ?_
      refine rj_val (wn1 rfl rfl rfl rfl) rfl rfl (y_eql rfl rfl) ?_
      refine rv0 rfl rfl rfl (y_pick_t rfl rfl) ?_
      refine rv0 rfl rfl rfl (y_assign rfl) ?_
      refine rj_nil ?_
      refine hK13 _ _ _ ?_
      refine cj_env (eL 4 rfl eN) ?_
      refine cj_ret ?_
      refine hret _ _ _ ?_
      apply ej_ret Try.results52 (.cons (rv_tmp rfl) .nil) _ [] (by (first | exact Hp.le_refl _ | assumption | exact Hp.le_trans ‹_› ‹_›)) rfl
      case hp => refine ⟨?_, rfl, rfl⟩; simp_all [rightB, tupOf] <;> first | exact emptyB _ | exact anyNot _ _
      case hS => (repeat (first|exact zR _|(apply zP;focus (repeat (first|exact zH _|apply zT)))|apply zD|exact zA _ _))
     ·try simp only [dT, dF, nT, nF, tF, fT] at hg25
      refine rj_skip (wn2 rfl rfl rfl rfl rfl) rfl rfl ?_
      refine rj_skip (wn2 rfl rfl rfl rfl rfl) rfl rfl ?_
      refine rj_skip (wn2 rfl rfl rfl rfl rfl) rfl rfl ?_
      refine rj_skip (wn2 rfl rfl rfl rfl rfl) rfl rfl ?_
      refine rv0 rfl rfl rfl (y_pick_f rfl rfl) ?_
      refine rv0 rfl rfl rfl (y_assign rfl) ?_
      refine rj_nil ?_
      refine hK13 _ _ _ ?_
      refine cj_env (eL 4 rfl eN) ?_
      refine cj_ret ?_
      refine hret _ _ _ ?_
      apply ej_ret Try.results52 (.cons (rv_tmp rfl) .nil) _ [] (by (first | exact Hp.le_refl _ | assumption | exact Hp.le_trans ‹_› ‹_›)) rfl
      case hp => refine ⟨?_, rfl, rfl⟩; simp_all [rightB, tupOf] <;> first | exact emptyB _ | exact anyNot _ _
      case hS => (repeat (first|exact zR _|(apply zP;focus (repeat (first|exact zH _|apply zT)))|apply zD|exact zA _ _))
    ·try simp only [dT, dF, nT, nF, tF, fT] at hc20
     refine cj_seq (fun K14 hK14 => ?_)
     refine cj_region ?_
     refine rv0 rfl rfl rfl (y_eql rfl rfl) ?_
     refine rv0 rfl rfl rfl (y_assign rfl) ?_
     refine rj_nil ?_
     refine hK14 _ _ _ ?_
     refine cj_env (eL 2 rfl (eL 3 rfl (eL 31 rfl eN))) ?_
     refine cj_cond rfl (fun hc31 => ?_) (fun hc31 => ?_)
     ·try simp only [dT, dF, nT, nF, tF, fT] at hc31
      refine cj_seq (fun K16 hK16 => ?_)
      refine cj_region ?_
      refine rv0 rfl rfl rfl (y_fieldAddr (k := 1) Try.underlying62 rfl (n := 1) (by decide) Try.sizeOf25 rfl) ?_
      first | refine rv0 rfl rfl rfl (y_load ⟨Try.isAgg25, Try.sizeOf25⟩ rfl (by (repeat (first|exact zH _|apply zT));done) rfl) ?_ | refine rv0 rfl rfl rfl (y_load_slc ⟨Try.isAgg25, Try.sizeOf25⟩ rfl (by (repeat (first|exact zH _|apply zT));done) rfl) ?_
      refine rv0 rfl rfl rfl (y_eql rfl rfl) ?_
      refine rv0 rfl rfl rfl (y_move rfl) ?_
      refine rj_part 36 rfl (fun hg36 => ?_) (fun hg36 => ?_)
      ·try simp only [dT, dF, nT, nF, tF, fT] at hg36
       refine rj_val (wn1 rfl rfl rfl rfl) rfl rfl (y_fieldAddr (k := 2) Try.underlying62 rfl (n := 1) (by decide) Try.sizeOf9 rfl) ?_
       first | refine rj_val (wn1 rfl rfl rfl rfl) rfl rfl (y_load ⟨Try.isAgg9, Try.sizeOf9⟩ rfl (by (repeat (first|exact zH _|apply zT));done) rfl) ?_ | refine rj_val (wn1 rfl rfl rfl rfl) rfl rfl (y_load_slc ⟨Try.isAgg9, Try.sizeOf9⟩ rfl (by (repeat (first|exact zH _|apply zT));done) rfl) ?_
       refine rj_val (wn1 rfl rfl rfl rfl) rfl rfl (y_seql rfl rfl) ?_
       refine rv0 rfl rfl rfl (y_pick_t rfl rfl) ?_
       refine rv0 rfl rfl rfl (y_move rfl) ?_
       refine rj_part 41 rfl (fun hg41 => ?_) (fun hg41 => ?_)
       ·try simp only [dT, dF, nT, nF, tF, fT] at hg41
        refine rj_val (wn1 rfl rfl rfl rfl) rfl rfl (y_fieldAddr (k := 3) Try.underlying62 rfl (n := 1) (by decide) Try.sizeOf60 rfl) ?_
        first | refine rj_val (wn1 rfl rfl rfl rfl) rfl rfl (y_load ⟨Try.isAgg60, Try.sizeOf60⟩ rfl (by (repeat (first|exact zH _|apply zT));done) rfl) ?_ | refine rj_val (wn1 rfl rfl rfl rfl) rfl rfl (y_load_slc ⟨Try.isAgg60, Try.sizeOf60⟩ rfl (by (repeat (first|exact zH _|apply zT));done) rfl) ?_
        refine rj_val (wn1 rfl rfl rfl rfl) rfl rfl (y_makeFunc rfl rfl) ?_
        refine rj_call (wn1 rfl rfl rfl rfl) rfl Try.call57 rfl (containsFunc_t l q cap hl bd (blk bd [.int .i64 ((e + 1 : Nat) : Int)] 3) (fun y => !rightB e y) (fun y cy hy hry => right1_q e bd y cy hry (by omega) (ih e (by omega) y cy hry (by omega)))) (by (repeat (first|exact zN _|(apply zS;focus (repeat (first|exact zH _|apply zT)))))) (fun _ _ _ _ h => h.elim) ?_
        rintro v R' L' hR ⟨rfl, rfl, rfl⟩
        try simp only [List.cons_append, List.nil_append]
        refine rj_val (wn1 rfl rfl rfl rfl) rfl rfl (y_not rfl) ?_
        refine rv0 rfl rfl rfl (y_pick_t rfl rfl) ?_
        refine rv0 rfl rfl rfl (y_assign rfl) ?_
        refine rj_nil ?_
        refine hK16 _ _ _ ?_
        refine cj_env (eL 4 rfl eN) ?_
        refine cj_ret ?_
        refine hret _ _ _ ?_
        apply ej_ret Try.results52 (.cons (rv_tmp rfl) .nil) _ [] (by (first | exact Hp.le_refl _ | assumption | exact Hp.le_trans ‹_› ‹_›)) rfl
        case hp => refine ⟨?_, rfl, rfl⟩; simp_all [rightB, tupOf] <;> first | exact emptyB _ | exact anyNot _ _
        case hS => (repeat (first|exact zR _|(apply zP;focus (repeat (first|exact zH _|apply zT)))|apply zD|exact zA _ _))
       ·try simp only [dT, dF, nT, nF, tF, fT] at hg41
        refine rj_skip (wn2 rfl rfl rfl rfl rfl) rfl rfl ?_
        refine rj_skip (wn2 rfl rfl rfl rfl rfl) rfl rfl ?_
        refine rj_skip (wn2 rfl rfl rfl rfl rfl) rfl rfl ?_
        refine rj_skip (wn2 rfl rfl rfl rfl rfl) rfl rfl ?_
        refine rj_skip (wn2 rfl rfl rfl rfl rfl) rfl rfl ?_
        refine rv0 rfl rfl rfl (y_pick_f rfl rfl) ?_
        refine rv0 rfl rfl rfl (y_assign rfl) ?_
        refine rj_nil ?_
        refine hK16 _ _ _ ?_
        refine cj_env (eL 4 rfl eN) ?_
        refine cj_ret ?_
        refine hret _ _ _ ?_
        apply ej_ret Try.results52 (.cons (rv_tmp rfl) .nil) _ [] (by (first | exact Hp.le_refl _ | assumption | exact Hp.le_trans ‹_› ‹_›)) rfl
        case hp => refine ⟨?_, rfl, rfl⟩; simp_all [rightB, tupOf] <;> first | exact emptyB _ | exact anyNot _ _
        case hS => (repeat (first|exact zR _|(apply zP;focus (repeat (first|exact zH _|apply zT)))|apply zD|exact zA _ _))
      ·try simp only [dT, dF, nT, nF, tF, fT] at hg36
       refine rj_skip (wn2 rfl rfl rfl rfl rfl) rfl rfl ?_
       refine rj_skip (wn2 rfl rfl rfl rfl rfl) rfl rfl ?_
       refine rj_skip (wn2 rfl rfl rfl rfl rfl) rfl rfl ?_
       refine rv0 rfl rfl rfl (y_pick_f rfl rfl) ?_
       refine rv0 rfl rfl rfl (y_move rfl) ?_
       refine rj_skip (wn2 rfl rfl rfl rfl rfl) rfl rfl ?_
       refine rj_skip (wn2 rfl rfl rfl rfl rfl) rfl rfl ?_
       refine rj_skip (wn2 rfl rfl rfl rfl rfl) rfl rfl ?_
       refine rj_skip (wn2 rfl rfl rfl rfl rfl) rfl rfl ?_
       refine rj_skip (wn2 rfl rfl rfl rfl rfl) rfl rfl ?_
       refine rv0 rfl rfl rfl (y_pick_f rfl rfl) ?_
       refine rv0 rfl rfl rfl (y_assign rfl) ?_
       refine rj_nil ?_
       refine hK16 _ _ _ ?_
       refine cj_env (eL 4 rfl eN) ?_
       refine cj_ret ?_
       refine hret _ _ _ ?_
       apply ej_ret Try.results52 (.cons (rv_tmp rfl) .nil) _ [] (by (first | exact Hp.le_refl _ | assumption | exact Hp.le_trans ‹_› ‹_›)) rfl
       case hp => refine ⟨?_, rfl, rfl⟩; simp_all [rightB, tupOf] <;> first | exact emptyB _ | exact anyNot _ _
       case hS => (repeat (first|exact zR _|(apply zP;focus (repeat (first|exact zH _|apply zT)))|apply zD|exact zA _ _))
     ·try simp only [dT, dF, nT, nF, tF, fT] at hc31
      refine cj_skip ?_
      refine hK6 _ _ _ ?_
      refine cj_env eN ?_
      refine cj_seq (fun K17 hK17 => ?_)
      refine cj_region ?_
      refine rv0 rfl rfl rfl (y_assign rfl) ?_
      refine rj_nil ?_
      refine hK17 _ _ _ ?_
      refine cj_ret ?_
      refine hret _ _ _ ?_
      apply ej_ret Try.results52 (.cons (rv_tmp rfl) .nil) _ [] (by (first | exact Hp.le_refl _ | assumption | exact Hp.le_trans ‹_› ‹_›)) rfl
      case hp => refine ⟨?_, rfl, rfl⟩; simp_all [rightB, tupOf] <;> first | exact emptyB _ | exact anyNot _ _
      case hS => (repeat (first|exact zR _|(apply zP;focus (repeat (first|exact zH _|apply zT)))|apply zD|exact zA _ _))
end V
end Go.Proofs.Ytcgjlhhfldkdaaa
