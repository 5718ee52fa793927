/- The document's Of and All, walked. -/
import Derived.Test.YtghgifgmacapcaaT18s
set_option linter.unusedSimpArgs false
set_option linter.unusedVariables false
set_option maxRecDepth 100000
namespace Go.Proofs.Ytghgifgmacapcaa
open Go.RowKit
namespace V
set_option maxHeartbeats 4000000
/-- what is answered, of a row -/
def ofV (cols : List Cl) (row : List Vl) (x : Ex) : Except Int Vl := if (kindE cols false x).2 = 0 ∧ all2 cols row = true then evX vstep gstep cols [row] x else .error 1
/-- of a group -/
def allV (cols : List Cl) (rows : List (List Vl)) (x : Ex) : Except Int Vl := if (kindE cols true x).2 = 0 ∧ grp x = true ∧ rows.all (all2 cols) = true then evX vstep gstep cols rows x else .error 1
theorem kindE_ok {cols : List Cl} {may : Bool} {x : Ex} (h : (kindE cols may x).2 = 0) : (kindX cols may x).2 = 0 ∧ (grp x = true → bareB x = true → False) := by
  unfold kindE at h
  dsimp only at h
  split at h
  · cases h
  · rename_i h1
    exact ⟨h, fun a b => h1 ⟨h, a, b⟩⟩
theorem rowFr1 {R : Hp} {row : List Vl} {vr v : Value} (h : FrozenS R v 1 [vr]) (hr : FrX valE R row vr) : FrX rowE R [row] v :=
  FrozenS.frx (l := [row]) (css := [[vr]]) h ⟨rfl, fun i x cs h1 h2 => by
    cases i with
    | zero => simp at h1 h2; subst h1 h2; exact ⟨vr, rfl, hr⟩
    | succ i => simp at h1⟩
theorem all_take {α : Type} {p : α → Bool} {l : List α} {i : Nat} {x : α} (h : (l.take i).all p = true) (hx : l[i]? = some x) (hp : p x = true) : (l.take (i + 1)).all p = true := by
  rw [List.take_add_one, hx]; simp [h, hp]
theorem all_not {α : Type} {p : α → Bool} {l : List α} {x : α} (hx : x ∈ l) (hp : p x = false) : l.all p = false := by
  rw [List.all_eq_false]; exact ⟨x, hx, by simp [hp]⟩
def inV (v : Vl) : Prop := inI v.n ∧ v.s.length ≤ maxLen
theorem rOf_q {R : Hp} (x : Ex) (cs : List Value) (cols : List Cl) (vc : Value) (row : List Vl) (vr : Value) (hw : WfX x) (hx : RepX R x cs) (hc : FrX colE R cols vc) (hck : ∀ c ∈ cols, kok c.kind) (hr : FrX valE R row vr) (hin : ∀ v ∈ row, inV v) :
    QTri Try.prog 20 [.agg ⟨cs⟩, vc, vr] R [] (pairV (ofV cols row x)) := by
  have hvc := hc.one
  obtain ⟨qr, capr, rfl, hcr1, hcr2⟩ := hr.shape
  have hxo := hx.one
  have hxl := hx.len
  refine Tri.q2 ?_
  refine tri_of Try.func20 rfl Try.ntmps20 rfl (fun σ F Q hret hend hpan => ?_)
  try simp only [List.cons_append, List.nil_append]
  refine cj_env (eL 0 rfl (eL 1 rfl (eL 2 rfl eN))) ?_
  refine cj_seq (fun K1 hK1 => ?_)
  refine cj_region ?_
  refine rj_box (wn0 rfl) rfl rfl rfl (fun b3 => ?_)
  refine rj_alloc (wn0 rfl) rfl Try.zeroValue26 rfl (fun b6 => ?_)
  refine rv0 rfl rfl rfl (y_assign rfl) ?_
  refine rj_nil ?_
  refine hK1 _ _ _ ?_
  refine cj_seq (fun K2 hK2 => ?_)
  refine cj_region ?_
  refine rv0 rfl rfl rfl ((y_loads_all (vs := cs) ⟨Try.isAgg29, Try.sizeOf29⟩ hxl rfl (by (repeat (first|exact zH _|apply zT));done))) ?_
  refine rv0 rfl rfl rfl (y_move rfl) ?_
  refine rv0 rfl rfl rfl (y_call Try.call14 rfl (rKind_q x cs cols vc false hw hx hc hck) (by (repeat (first|exact zN _|(apply zS;focus (repeat (first|exact zH _|apply zT))))))) ?_
  refine rv0 rfl rfl rfl (y_move rfl) ?_
  refine rv0 rfl rfl rfl (y_extract rfl rfl) ?_
  refine rv0 rfl rfl rfl (y_extract rfl rfl) ?_
  refine rv0 rfl rfl rfl (y_assign rfl) ?_
  refine rv0 rfl rfl rfl (y_assign rfl) ?_
  refine rj_nil ?_
  refine hK2 _ _ _ ?_
  refine cj_env (eL 1 rfl (eL 2 rfl (eL 3 rfl (eL 6 rfl (eL 9 rfl eN))))) ?_
  refine cj_seq (fun K3 hK3 => ?_)
  refine cj_seq (fun K4 hK4 => ?_)
  refine cj_region ?_
  refine rv0 rfl rfl rfl (y_move rfl) ?_
  refine rv0 rfl rfl rfl (y_neq rfl rfl) ?_
  refine rv0 rfl rfl rfl (y_move rfl) ?_
  refine rj_part 18 rfl (fun hg18 => ?_) (fun hg18 => ?_)
  ·have hk : ¬ (kindE cols false x).2 = 0 := by simpa using hg18
   refine rj_skip (wn2 rfl rfl rfl rfl rfl) rfl rfl ?_
   refine rj_skip (wn2 rfl rfl rfl rfl rfl) rfl rfl ?_
   refine rj_skip (wn2 rfl rfl rfl rfl rfl) rfl rfl ?_
   refine rj_skip (wn2 rfl rfl rfl rfl rfl) rfl rfl ?_
   refine rv0 rfl rfl rfl (y_pick_t rfl rfl) ?_
   refine rj_nil ?_
   refine hK4 _ _ _ ?_
   refine cj_env (eL 1 rfl (eL 2 rfl (eL 3 rfl (eL 6 rfl (eL 23 rfl eN))))) ?_
   refine cj_cond_t rfl ?_
   refine cj_seq (fun K5 hK5 => ?_)
   refine cj_region ?_
   refine rv0 rfl rfl rfl (y_build (cells := [_, _, _]) [(0, 1), (1, 1), (2, 1)] Try.underlying26 Try.zeroValue26 (fun _ => rfl) rfl rfl) ?_
   refine rj_stores_all (vs := valC (Vl.zero)) ⟨Try.isAgg26, Try.sizeOf26⟩ rfl (wn0 rfl) rfl rfl (valE.one (R := R) (x := Vl.zero) rfl) (by (repeat (first|exact zH _|apply zT));done) rfl ?_
   refine rv0 rfl rfl rfl (y_assign rfl) ?_
   refine rj_nil ?_
   refine hK5 _ _ _ ?_
   refine cj_env (eL 6 rfl (eL 7 rfl eN)) ?_
   refine cj_ret ?_
   refine hret _ _ _ ?_
   apply ej_ret Try.results20 (.cons (rv_cells ⟨Try.isAgg26, Try.sizeOf26⟩ rfl (by (repeat (first|exact zH _|apply zT));done) rfl rfl) (.cons (rv_tmp rfl) .nil)) _ [] (by (first | exact Hp.le_refl _ | assumption | exact Hp.le_trans ‹_› ‹_›)) rfl
   case hp => refine ⟨?_, rfl⟩; unfold ofV; rw [if_neg (fun h => hk h.1)]; rfl
   case hS => (repeat (first|exact zR _|(apply zP;focus (repeat (first|exact zH _|apply zT)))|apply zD|exact zA _ _))
  ·have hk : (kindE cols false x).2 = 0 := by simpa using hg18
   refine rj_val (wn1 rfl rfl rfl rfl) rfl rfl (y_move rfl) ?_
   refine rj_val (wn1 rfl rfl rfl rfl) rfl rfl (y_move rfl) ?_
   refine rj_val (wn1 rfl rfl rfl rfl) rfl rfl (y_call Try.call43 rfl (rRow_q cols row vc _ hc hr (fun v hv => (hin v hv).2)) (by (repeat (first|exact zN _|(apply zS;focus (repeat (first|exact zH _|apply zT))))))) ?_
   refine rj_val (wn1 rfl rfl rfl rfl) rfl rfl (y_not rfl) ?_
   refine rv0 rfl rfl rfl (y_pick_f rfl rfl) ?_
   refine rj_nil ?_
   refine hK4 _ _ _ ?_
   refine cj_env (eL 1 rfl (eL 2 rfl (eL 3 rfl (eL 6 rfl (eL 23 rfl eN))))) ?_
   refine cj_cond rfl (fun hc23 => ?_) (fun hc23 => ?_)
   ·have ha : all2 cols row = false := by simpa using hc23
    refine cj_seq (fun K7 hK7 => ?_)
    refine cj_region ?_
    refine rv0 rfl rfl rfl (y_build (cells := [_, _, _]) [(0, 1), (1, 1), (2, 1)] Try.underlying26 Try.zeroValue26 (fun _ => rfl) rfl rfl) ?_
    refine rj_stores_all (vs := valC (Vl.zero)) ⟨Try.isAgg26, Try.sizeOf26⟩ rfl (wn0 rfl) rfl rfl (valE.one (R := R) (x := Vl.zero) rfl) (by (repeat (first|exact zH _|apply zT));done) rfl ?_
    refine rv0 rfl rfl rfl (y_assign rfl) ?_
    refine rj_nil ?_
    refine hK7 _ _ _ ?_
    refine cj_env (eL 6 rfl (eL 7 rfl eN)) ?_
    refine cj_ret ?_
    refine hret _ _ _ ?_
    apply ej_ret Try.results20 (.cons (rv_cells ⟨Try.isAgg26, Try.sizeOf26⟩ rfl (by (repeat (first|exact zH _|apply zT));done) rfl rfl) (.cons (rv_tmp rfl) .nil)) _ [] (by (first | exact Hp.le_refl _ | assumption | exact Hp.le_trans ‹_› ‹_›)) rfl
    case hp => refine ⟨?_, rfl⟩; unfold ofV; rw [if_neg (fun h => by rw [ha] at h; exact absurd h.2 (by simp))]; rfl
    case hS => (repeat (first|exact zR _|(apply zP;focus (repeat (first|exact zH _|apply zT)))|apply zD|exact zA _ _))
   ·have ha : all2 cols row = true := by simpa using hc23
    refine cj_skip ?_
    refine hK3 _ _ _ ?_
    refine cj_seq (fun K8 hK8 => ?_)
    refine cj_region ?_
    refine rv0 rfl rfl rfl ((y_loads_all (vs := cs) ⟨Try.isAgg29, Try.sizeOf29⟩ hxl rfl (by (repeat (first|exact zH _|apply zT));done))) ?_
    refine rv0 rfl rfl rfl (y_move rfl) ?_
    refine rv0 rfl rfl rfl (y_move rfl) ?_
    refine rj_buildSlice (sz := 1) (wn0 rfl) rfl Try.underlying45 Try.sizeOf43 Try.zeroValue43 rfl rfl rfl (by decide) (by decide) (fun b8 => ?_)
    refine rj_freeze (e := 43) (sz := 1) (n := 1) (xs := [.slice qr row.length capr]) (by (repeat (first|exact zH _|apply zT));done) (fun R2 hR2 hfr1 hxl1 => ?_)
    have hfv := rowFr1 hfr1 (hr.mono hR2)
    have hok : RowsOK cols [row] := ⟨by simp, fun r h => by simp at h; subst h; exact ha, fun r h v hv => by simp at h; subst h; exact (hin v hv).1⟩
    obtain ⟨v4, e4, h4, hc4⟩ := pairV_split (r := evX vstep gstep cols [row] x) (fun e he => evX_e _ x [row] e (Nat.le_refl _) he)
    have hof : ofV cols row x = evX vstep gstep cols [row] x := by unfold ofV; rw [if_pos ⟨hk, ha⟩]
    refine rv0 rfl rfl rfl (y_call Try.call44 rfl ((rvalue_q _ x cs cols vc [row] _ false false (Nat.le_refl _) hw (hx.mono hR2) (hc.mono hR2) hck hfv hok (kindE_ok hk).1 (fun _ => by simp)).eq h4) (by (repeat (first|exact zN _|(apply zS;focus (repeat (first|exact zH _|apply zT))))))) ?_
    refine rv0 rfl rfl rfl (y_extract rfl rfl) ?_
    refine rv0 rfl rfl rfl (y_extract rfl rfl) ?_
    refine rj_stores_all (vs := valC v4) ⟨Try.isAgg26, Try.sizeOf26⟩ rfl (wn0 rfl) rfl rfl (valE.one (R := R) (x := v4) rfl) (by (repeat (first|exact zH _|apply zT));done) rfl ?_
    refine rv0 rfl rfl rfl (y_assign rfl) ?_
    refine rj_nil ?_
    refine hK8 _ _ _ ?_
    refine cj_env (eL 6 rfl (eL 7 rfl eN)) ?_
    refine cj_ret ?_
    refine hret _ _ _ ?_
    apply ej_ret Try.results20 (.cons (rv_cells ⟨Try.isAgg26, Try.sizeOf26⟩ rfl (by (repeat (first|exact zH _|apply zT));done) rfl rfl) (.cons (rv_tmp rfl) .nil)) _ [] (by (first | exact Hp.le_refl _ | assumption | exact Hp.le_trans ‹_› ‹_›)) rfl
    case hp => exact ⟨by rw [hof, h4]; rfl, rfl⟩
    case hS => (repeat (first|exact zR _|(apply zP;focus (repeat (first|exact zH _|apply zT)))|apply zD|exact zA _ _))
theorem rAll_q {R : Hp} (x : Ex) (cs : List Value) (cols : List Cl) (vc : Value) (rows : List (List Vl)) (vr : Value) (hw : WfX x) (hx : RepX R x cs) (hc : FrX colE R cols vc) (hck : ∀ c ∈ cols, kok c.kind) (hr : FrX rowE R rows vr) (hin : ∀ row ∈ rows, ∀ v ∈ row, inV v) :
    QTri Try.prog 22 [.agg ⟨cs⟩, vc, vr] R [] (pairV (allV cols rows x)) := by
  have hvc := hc.one
  obtain ⟨q, cap, rfl, hcap, hcm⟩ := hr.shape
  have hlb : rows.length ≤ maxLen := Nat.le_trans hcap hcm
  unfold maxLen at hlb
  have hxo := hx.one
  have hxl := hx.len
  refine Tri.q2 ?_
  refine tri_of Try.func22 rfl Try.ntmps22 rfl (fun σ F Q hret hend hpan => ?_)
  try simp only [List.cons_append, List.nil_append]
  refine cj_env (eL 0 rfl (eL 1 rfl (eL 2 rfl eN))) ?_
  refine cj_seq (fun K1 hK1 => ?_)
  refine cj_region ?_
  refine rj_box (wn0 rfl) rfl rfl rfl (fun b3 => ?_)
  refine rj_alloc (wn0 rfl) rfl Try.zeroValue26 rfl (fun b6 => ?_)
  refine rv0 rfl rfl rfl (y_assign rfl) ?_
  refine rj_nil ?_
  refine hK1 _ _ _ ?_
  refine cj_seq (fun K2 hK2 => ?_)
  refine cj_region ?_
  refine rv0 rfl rfl rfl ((y_loads_all (vs := cs) ⟨Try.isAgg29, Try.sizeOf29⟩ hxl rfl (by (repeat (first|exact zH _|apply zT));done))) ?_
  refine rv0 rfl rfl rfl (y_move rfl) ?_
  refine rv0 rfl rfl rfl (y_call Try.call14 rfl (rKind_q x cs cols vc true hw hx hc hck) (by (repeat (first|exact zN _|(apply zS;focus (repeat (first|exact zH _|apply zT))))))) ?_
  refine rv0 rfl rfl rfl (y_move rfl) ?_
  refine rv0 rfl rfl rfl (y_extract rfl rfl) ?_
  refine rv0 rfl rfl rfl (y_extract rfl rfl) ?_
  refine rv0 rfl rfl rfl (y_assign rfl) ?_
  refine rv0 rfl rfl rfl (y_assign rfl) ?_
  refine rj_nil ?_
  refine hK2 _ _ _ ?_
  refine cj_env (eL 1 rfl (eL 2 rfl (eL 3 rfl (eL 6 rfl (eL 9 rfl eN))))) ?_
  refine cj_seq (fun K3 hK3 => ?_)
  refine cj_seq (fun K4 hK4 => ?_)
  refine cj_region ?_
  refine rv0 rfl rfl rfl (y_move rfl) ?_
  refine rv0 rfl rfl rfl (y_neq rfl rfl) ?_
  refine rv0 rfl rfl rfl (y_move rfl) ?_
  refine rj_part 19 rfl (fun hg19 => ?_) (fun hg19 => ?_)
  ·have hk : ¬ (kindE cols true x).2 = 0 := by simpa using hg19
   refine rj_skip (wn2 rfl rfl rfl rfl rfl) rfl rfl ?_
   refine rj_skip (wn2 rfl rfl rfl rfl rfl) rfl rfl ?_
   refine rj_skip (wn2 rfl rfl rfl rfl rfl) rfl rfl ?_
   refine rv0 rfl rfl rfl (y_pick_t rfl rfl) ?_
   refine rj_nil ?_
   refine hK4 _ _ _ ?_
   refine cj_env (eL 1 rfl (eL 2 rfl (eL 3 rfl (eL 6 rfl (eL 23 rfl eN))))) ?_
   refine cj_cond_t rfl ?_
   refine cj_seq (fun K5 hK5 => ?_)
   refine cj_region ?_
   refine rv0 rfl rfl rfl (y_build (cells := [_, _, _]) [(0, 1), (1, 1), (2, 1)] Try.underlying26 Try.zeroValue26 (fun _ => rfl) rfl rfl) ?_
   refine rj_stores_all (vs := valC (Vl.zero)) ⟨Try.isAgg26, Try.sizeOf26⟩ rfl (wn0 rfl) rfl rfl (valE.one (R := R) (x := Vl.zero) rfl) (by (repeat (first|exact zH _|apply zT));done) rfl ?_
   refine rv0 rfl rfl rfl (y_assign rfl) ?_
   refine rj_nil ?_
   refine hK5 _ _ _ ?_
   refine cj_env (eL 6 rfl (eL 7 rfl eN)) ?_
   refine cj_ret ?_
   refine hret _ _ _ ?_
   apply ej_ret Try.results22 (.cons (rv_cells ⟨Try.isAgg26, Try.sizeOf26⟩ rfl (by (repeat (first|exact zH _|apply zT));done) rfl rfl) (.cons (rv_tmp rfl) .nil)) _ [] (by (first | exact Hp.le_refl _ | assumption | exact Hp.le_trans ‹_› ‹_›)) rfl
   case hp => refine ⟨?_, rfl⟩; unfold allV; rw [if_neg (fun h => hk h.1)]; rfl
   case hS => (repeat (first|exact zR _|(apply zP;focus (repeat (first|exact zH _|apply zT)))|apply zD|exact zA _ _))
  ·have hk : (kindE cols true x).2 = 0 := by simpa using hg19
   refine rj_val (wn1 rfl rfl rfl rfl) rfl rfl ((y_loads_all (vs := cs) ⟨Try.isAgg29, Try.sizeOf29⟩ hxl rfl (by (repeat (first|exact zH _|apply zT));done))) ?_
   refine rj_val (wn1 rfl rfl rfl rfl) rfl rfl (y_call Try.call16 rfl (rgroup_q _ x cs (Nat.le_refl _) hx) (by (repeat (first|exact zN _|(apply zS;focus (repeat (first|exact zH _|apply zT))))))) ?_
   refine rj_val (wn1 rfl rfl rfl rfl) rfl rfl (y_not rfl) ?_
   refine rv0 rfl rfl rfl (y_pick_f rfl rfl) ?_
   refine rj_nil ?_
   refine hK4 _ _ _ ?_
   refine cj_env (eL 1 rfl (eL 2 rfl (eL 3 rfl (eL 6 rfl (eL 23 rfl eN))))) ?_
   refine cj_cond rfl (fun hc23 => ?_) (fun hc23 => ?_)
   ·have hg : grp x = false := by simpa using hc23
    refine cj_seq (fun K7 hK7 => ?_)
    refine cj_region ?_
    refine rv0 rfl rfl rfl (y_build (cells := [_, _, _]) [(0, 1), (1, 1), (2, 1)] Try.underlying26 Try.zeroValue26 (fun _ => rfl) rfl rfl) ?_
    refine rj_stores_all (vs := valC (Vl.zero)) ⟨Try.isAgg26, Try.sizeOf26⟩ rfl (wn0 rfl) rfl rfl (valE.one (R := R) (x := Vl.zero) rfl) (by (repeat (first|exact zH _|apply zT));done) rfl ?_
    refine rv0 rfl rfl rfl (y_assign rfl) ?_
    refine rj_nil ?_
    refine hK7 _ _ _ ?_
    refine cj_env (eL 6 rfl (eL 7 rfl eN)) ?_
    refine cj_ret ?_
    refine hret _ _ _ ?_
    apply ej_ret Try.results22 (.cons (rv_cells ⟨Try.isAgg26, Try.sizeOf26⟩ rfl (by (repeat (first|exact zH _|apply zT));done) rfl rfl) (.cons (rv_tmp rfl) .nil)) _ [] (by (first | exact Hp.le_refl _ | assumption | exact Hp.le_trans ‹_› ‹_›)) rfl
    case hp => refine ⟨?_, rfl⟩; unfold allV; rw [if_neg (fun h => by rw [hg] at h; exact absurd h.2.1 (by simp))]; rfl
    case hS => (repeat (first|exact zR _|(apply zP;focus (repeat (first|exact zH _|apply zT)))|apply zD|exact zA _ _))
   ·have hg : grp x = true := by simpa using hc23
    refine cj_skip ?_
    refine hK3 _ _ _ ?_
    refine cj_seq (fun K8 hK8 => ?_)
    refine cj_seq (fun K9 hK9 => ?_)
    refine cj_region ?_
    refine rv0 rfl rfl rfl (y_assign rfl) ?_
    refine rj_nil ?_
    refine hK9 _ _ _ ?_
    refine cj_block ?_
    refine cj_env (E' := (fun (x1 : Nat) => [(1, vc), (2, .slice q rows.length cap), (3, .pointer (some ⟨b3, 0, none⟩)), (6, .pointer (some ⟨b6, 0, none⟩)), (10, .int .i64 (x1 : Int))]) 0) (eC rfl (eC rfl (eC rfl (eC rfl (eC rfl eN))))) ?_
    refine cj_sub (M := (fun (x1 : Nat) => blk b6 (valC Vl.zero) 26 :: blk b3 cs 29 :: F) 0) (by (repeat (first|exact zR _|(apply zP;focus (repeat (first|exact zH _|apply zT)))|apply zD|exact zA _ _))) ?_
    refine cj_loop (fun (x1 : Nat) => [(1, vc), (2, .slice q rows.length cap), (3, .pointer (some ⟨b3, 0, none⟩)), (6, .pointer (some ⟨b6, 0, none⟩)), (10, .int .i64 (x1 : Int))]) (fun (x1 : Nat) => R) (fun (x1 : Nat) => blk b6 (valC Vl.zero) 26 :: blk b3 cs 29 :: F) (fun (x1 : Nat) => x1 ≤ rows.length ∧ (rows.take x1).all (all2 cols) = true) (fun (x1 : Nat) => rows.length - x1) 0 (⟨by simp, by simp⟩) ?_
    rintro i ⟨hi, hall⟩
    try dsimp only
    refine cj_seq (fun K10 hK10 => ?_)
    refine cj_seq (fun K11 hK11 => ?_)
    refine cj_region ?_
    refine rv0 rfl rfl rfl (y_move rfl) ?_
    refine rv0 rfl rfl rfl (y_move rfl) ?_
    first | refine rv0 rfl rfl rfl (y_len_sl Try.underlying45 rfl) ?_ | refine rv0 rfl rfl rfl (y_len_slc Try.underlying45 rfl (by (repeat (first|exact zH _|apply zT));done)) ?_
    refine rv0 rfl rfl rfl (y_lss rfl rfl) ?_
    refine rj_nil ?_
    refine hK11 _ _ _ ?_
    refine cj_env (eL 1 rfl (eL 2 rfl (eL 3 rfl (eL 6 rfl (eL 10 rfl (eL 28 rfl eN)))))) ?_
    refine cj_cond rfl (fun hc28 => ?_) (fun hc28 => ?_)
    ·try simp only [dT, dF, nT, nF, tF, fT] at hc28
     refine cj_skip ?_
     refine hK10 _ _ _ ?_
     refine cj_seq (fun K13 hK13 => ?_)
     refine cj_block ?_
     refine cj_seq (fun K14 hK14 => ?_)
     refine cj_region ?_
     obtain ⟨row, hx1⟩ : ∃ row, rows[i]? = some row := ⟨rows[i]'(by (try simp at hc28); omega), by simp⟩
     have hi2 := (List.getElem?_eq_some_iff.1 hx1).1
     have hrm := List.mem_of_getElem? hx1
     obtain ⟨br, orr, cpr, csr, her, ⟨vrow, rfl, hrow⟩, _, hcellr⟩ := hr.at hx1
     obtain ⟨rfl, rfl⟩ : q = some ⟨br, orr, none⟩ ∧ cap = cpr := by cases her; exact ⟨rfl, rfl⟩
     refine rv0 rfl rfl rfl (y_move rfl) ?_
     refine rv0 rfl rfl rfl (y_move rfl) ?_
     refine rv0 rfl rfl rfl (y_move rfl) ?_
     first | refine rv0 rfl rfl rfl (y_indexAddr Try.underlying45 Try.sizeOf43 rfl rfl (by (first | omega | (dsimp only; omega) | (simp; done) | (simp; omega)))) ?_ | refine rv0 rfl rfl rfl (y_index_slc Try.underlying45 Try.sizeOf43 rfl rfl (by (repeat (first|exact zH _|apply zT));done) (by (first | omega | (dsimp only; omega) | (simp; done) | (simp; omega)))) ?_
     refine rv0 rfl rfl rfl ((y_load_ro ⟨Try.isAgg43, Try.sizeOf43⟩ rfl (hcellr 0 _ rfl))) ?_
     refine rv0 rfl rfl rfl (y_call Try.call43 rfl (rRow_q cols row vc vrow hc hrow (fun v hv => (hin row hrm v hv).2)) (by (repeat (first|exact zN _|(apply zS;focus (repeat (first|exact zH _|apply zT))))))) ?_
     refine rv0 rfl rfl rfl (y_not rfl) ?_
     refine rj_nil ?_
     refine hK14 _ _ _ ?_
     refine cj_env (eL 1 rfl (eL 2 rfl (eL 3 rfl (eL 6 rfl (eL 10 rfl (eL 37 rfl eN)))))) ?_
     refine cj_cond rfl (fun hc37 => ?_) (fun hc37 => ?_)
     ·have ha : all2 cols row = false := by simpa using hc37
      refine cj_seq (fun K16 hK16 => ?_)
      refine cj_region ?_
      refine rv0 rfl rfl rfl (y_build (cells := [_, _, _]) [(0, 1), (1, 1), (2, 1)] Try.underlying26 Try.zeroValue26 (fun _ => rfl) rfl rfl) ?_
      refine rj_stores_all (vs := valC (Vl.zero)) ⟨Try.isAgg26, Try.sizeOf26⟩ rfl (wn0 rfl) rfl rfl (valE.one (R := R) (x := Vl.zero) rfl) (by (repeat (first|exact zH _|apply zT));done) rfl ?_
      refine rv0 rfl rfl rfl (y_assign rfl) ?_
      refine rj_nil ?_
      refine hK16 _ _ _ ?_
      refine cj_env (eL 6 rfl (eL 7 rfl eN)) ?_
      refine cj_ret ?_
      refine hret _ _ _ ?_
      apply ej_ret Try.results22 (.cons (rv_cells ⟨Try.isAgg26, Try.sizeOf26⟩ rfl (by (repeat (first|exact zH _|apply zT));done) rfl rfl) (.cons (rv_tmp rfl) .nil)) _ [] (by (first | exact Hp.le_refl _ | assumption | exact Hp.le_trans ‹_› ‹_›)) rfl
      case hp => refine ⟨?_, rfl⟩; unfold allV; rw [if_neg (fun h => by rw [all_not hrm ha] at h; exact absurd h.2.2 (by simp))]; rfl
      case hS => (repeat (first|exact zR _|(apply zP;focus (repeat (first|exact zH _|apply zT)))|apply zD|exact zA _ _))
     ·have ha : all2 cols row = true := by simpa using hc37
      refine cj_skip ?_
      refine hK13 _ _ _ ?_
      refine cj_region ?_
      refine rv0 rfl rfl rfl (y_move rfl) ?_
      first | refine rv0 rfl rfl rfl (y_add64 rfl rfl (by (first | omega | (dsimp only; omega) | (simp; done) | (simp; omega)))) ?_ | refine rv0 rfl rfl rfl (y_add rfl rfl) ?_
      refine rv0 rfl rfl rfl (y_assign rfl) ?_
      refine rj_nil ?_
      refine ej_on (q' := roundK _ _ _ _ _ _ _) rfl ?_
      refine ej_round (i + 1) (⟨by omega, all_take hall hx1 ha⟩) (by omega) (eC rfl (eC rfl (eC rfl (eC rfl (eC rfl eN))))) rfl (by (repeat (first|exact zR _|(apply zP;focus (repeat (first|exact zH _|apply zT)))|apply zD|exact zA _ _)))
    ·try simp only [dT, dF, nT, nF, tF, fT] at hc28
     refine cj_exit ?_
     refine hK8 _ _ _ ?_
     refine cj_seq (fun K17 hK17 => ?_)
     refine cj_region ?_
     obtain rfl : i = rows.length := by (try simp at hc28); omega
     rw [List.take_length] at hall
     have hok : RowsOK cols rows := ⟨by omega, fun r h => List.all_eq_true.1 hall r h, fun r h v hv => (hin r h v hv).1⟩
     obtain ⟨v4, e4, h4, hc4⟩ := pairV_split (r := evX vstep gstep cols rows x) (fun e he => evX_e _ x rows e (Nat.le_refl _) he)
     have hof : allV cols rows x = evX vstep gstep cols rows x := by unfold allV; rw [if_pos ⟨hk, hg, hall⟩]
     refine rv0 rfl rfl rfl ((y_loads_all (vs := cs) ⟨Try.isAgg29, Try.sizeOf29⟩ hxl rfl (by (repeat (first|exact zH _|apply zT));done))) ?_
     refine rv0 rfl rfl rfl (y_move rfl) ?_
     refine rv0 rfl rfl rfl (y_move rfl) ?_
     refine rv0 rfl rfl rfl (y_call Try.call44 rfl ((rvalue_q _ x cs cols vc rows _ true true (Nat.le_refl _) hw hx hc hck hr hok (kindE_ok hk).1 (fun hb => ((kindE_ok hk).2 hg hb).elim)).eq h4) (by (repeat (first|exact zN _|(apply zS;focus (repeat (first|exact zH _|apply zT))))))) ?_
     refine rv0 rfl rfl rfl (y_extract rfl rfl) ?_
     refine rv0 rfl rfl rfl (y_extract rfl rfl) ?_
     refine rj_stores_all (vs := valC v4) ⟨Try.isAgg26, Try.sizeOf26⟩ rfl (wn0 rfl) rfl rfl (valE.one (R := R) (x := v4) rfl) (by (repeat (first|exact zH _|apply zT));done) rfl ?_
     refine rv0 rfl rfl rfl (y_assign rfl) ?_
     refine rj_nil ?_
     refine hK17 _ _ _ ?_
     refine cj_env (eL 6 rfl (eL 7 rfl eN)) ?_
     refine cj_ret ?_
     refine hret _ _ _ ?_
     apply ej_ret Try.results22 (.cons (rv_cells ⟨Try.isAgg26, Try.sizeOf26⟩ rfl (by (repeat (first|exact zH _|apply zT));done) rfl rfl) (.cons (rv_tmp rfl) .nil)) _ [] (by (first | exact Hp.le_refl _ | assumption | exact Hp.le_trans ‹_› ‹_›)) rfl
     case hp => exact ⟨by rw [hof, h4]; rfl, rfl⟩
     case hS => (repeat (first|exact zR _|(apply zP;focus (repeat (first|exact zH _|apply zT)))|apply zD|exact zA _ _))
end V
end Go.Proofs.Ytghgifgmacapcaa
