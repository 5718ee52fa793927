/- What expressions are, plain; more small walks. -/
import Derived.Test.YtghgifgmacapcaaT18j
set_option linter.unusedSimpArgs false
set_option linter.unusedVariables false
set_option maxRecDepth 100000
namespace Go.Proofs.Ytghgifgmacapcaa
open Go.RowKit
namespace V
set_option maxHeartbeats 4000000
def numV : Except Int Int → Except Int Vl
  | .ok n => .ok ⟨1, n, []⟩
  | .error e => .error e
/-- what a kid decides alone -/
def decV (want : Bool) (x y : Vl) : Vl :=
  if (!decide (x.kind = 0) && decide (trueV x = want)) || (!decide (y.kind = 0) && decide (trueV y = want)) then truthV want
  else if x.kind = 0 ∨ y.kind = 0 then Vl.zero else truthV (!want)
def anyNull (ks : List Vl) : Bool := ks.any (fun v => decide (v.kind = 0))
/-- an operator's value, of its kids' -/
def vstep (op : Op) (ks : List Vl) : Except Int Vl :=
  let x := ks.getD 0 Vl.zero
  let y := ks.getD 1 Vl.zero
  if op = .isnull then .ok (truthV (anyNull ks))
  else if op = .or ∨ op = .and then .ok (decV (decide (op = .or)) x y)
  else if anyNull ks = true then .ok Vl.zero
  else if op = .not then .ok (truthV (!trueV x))
  else if op = .neg then numV (num64 (0 - x.n))
  else if op = .cat then (if x.s.length + y.s.length ≤ 200 then .ok ⟨2, 0, x.s ++ y.s⟩ else .error 28)
  else if fam op = 2 then .ok (truthV (cmpB op (cmpV x y)))
  else numV (reckV op x.n y.n)
/-- a group's value so far, and one more -/
def gstep (op : Op) (out v : Vl) : Except Int Vl :=
  if v.kind = 0 then .ok out
  else if out.kind = 0 then .ok v
  else if op = .sum then (match num64 (out.n + v.n) with | .ok n => .ok ⟨out.kind, n, out.s⟩ | .error e => .error e)
  else if decide (cmpV v out < 0) = decide (op = .min) then .ok v else .ok out
def foldE {α : Type} (f : α → Except Int Vl) (g : Vl → Vl → Except Int Vl) : List α → Vl → Except Int Vl
  | [], out => .ok out
  | r :: rs, out => match f r with
    | .error e => .error e
    | .ok v => match g out v with
      | .error e => .error e
      | .ok o => foldE f g rs o
theorem foldE_err {α : Type} {f : α → Except Int Vl} {g : Vl → Vl → Except Int Vl} : ∀ {l : List α} {i : Nat} {x : α} {o out : Vl} {e : Int}, foldE f g (l.take i) o = .ok out → l[i]? = some x → (f x = .error e ∨ ∃ v, f x = .ok v ∧ g out v = .error e) → foldE f g l o = .error e
  | [], i, x, o, out, e, _, h, _ => by simp at h
  | y :: l, 0, x, o, out, e, h0, h, hx => by
    simp at h; subst h
    simp [foldE] at h0; subst h0
    rw [foldE]
    rcases hx with h1 | ⟨v, h1, h2⟩
    · rw [h1]
    · rw [h1]; simp only [h2]
  | y :: l, i + 1, x, o, out, e, h0, h, hx => by
    rw [List.take_succ_cons, foldE] at h0
    rw [foldE]
    cases hf : f y with
    | error e1 => rw [hf] at h0; cases h0
    | ok v =>
      rw [hf] at h0; simp only at h0 ⊢
      cases hg : g o v with
      | error e1 => rw [hg] at h0; cases h0
      | ok o1 => rw [hg] at h0; exact foldE_err h0 (by simpa using h) hx
theorem foldE_snoc {α : Type} {f : α → Except Int Vl} {g : Vl → Vl → Except Int Vl} : ∀ {l : List α} {i : Nat} {x : α} {o out v o' : Vl}, foldE f g (l.take i) o = .ok out → l[i]? = some x → f x = .ok v → g out v = .ok o' → foldE f g (l.take (i + 1)) o = .ok o'
  | [], i, x, o, out, v, o', _, h, _, _ => by simp at h
  | y :: l, 0, x, o, out, v, o', h0, h, hx, hg => by
    simp at h; subst h
    simp [foldE] at h0; subst h0
    simp [foldE, hx, hg]
  | y :: l, i + 1, x, o, out, v, o', h0, h, hx, hg => by
    rw [List.take_succ_cons, foldE] at h0 ⊢
    cases hf : f y with
    | error e1 => rw [hf] at h0; cases h0
    | ok v =>
      rw [hf] at h0; simp only at h0 ⊢
      cases hg1 : g o v with
      | error e1 => rw [hg1] at h0; cases h0
      | ok o1 => rw [hg1] at h0; exact foldE_snoc h0 (by simpa using h) hx hg
section
variable (vs : Op → List Vl → Except Int Vl) (gs : Op → Vl → Vl → Except Int Vl) (cols : List Cl)
mutual
/-- an expression's value, of rows -/
def evX : List (List Vl) → Ex → Except Int Vl
  | rows, .mk op v name kids =>
    if op = .val then .ok v
    else if op = .col then .ok ((rows.getD 0 []).getD (placeC cols name).toNat Vl.zero)
    else if op = .count then .ok ⟨1, (rows.length : Int), []⟩
    else if fam op = 5 then evG op rows kids
    else match evL rows kids with
      | .ok ks => vs op ks
      | .error e => .error e
def evL : List (List Vl) → List Ex → Except Int (List Vl)
  | _, [] => .ok []
  | rows, k :: l => match evX rows k with
    | .error e => .error e
    | .ok v => match evL rows l with
      | .error e => .error e
      | .ok ks => .ok (v :: ks)
def evG (op : Op) : List (List Vl) → List Ex → Except Int Vl
  | _, [] => .ok Vl.zero
  | rows, k :: _ => foldE (fun row => evX [row] k) (gs op) rows Vl.zero
end
variable {vs gs cols}
theorem evL_err {rows : List (List Vl)} : ∀ {l : List Ex} {i : Nat} {x : Ex} {ks : List Vl} {e : Int}, evL vs gs cols rows (l.take i) = .ok ks → l[i]? = some x → evX vs gs cols rows x = .error e → evL vs gs cols rows l = .error e
  | [], i, x, ks, e, _, h, _ => by simp at h
  | y :: l, 0, x, ks, e, _, h, hx => by
    simp at h; subst h
    rw [evL, hx]
  | y :: l, i + 1, x, ks, e, h0, h, hx => by
    rw [List.take_succ_cons, evL] at h0
    rw [evL]
    cases hf : evX vs gs cols rows y with
    | error e1 => rw [hf] at h0; cases h0
    | ok v =>
      rw [hf] at h0; simp only at h0 ⊢
      cases hl : evL vs gs cols rows (l.take i) with
      | error e1 => rw [hl] at h0; cases h0
      | ok k1 => rw [evL_err hl (by simpa using h) hx]
theorem evL_snoc {rows : List (List Vl)} : ∀ {l : List Ex} {i : Nat} {x : Ex} {ks : List Vl} {v : Vl}, evL vs gs cols rows (l.take i) = .ok ks → l[i]? = some x → evX vs gs cols rows x = .ok v → evL vs gs cols rows (l.take (i + 1)) = .ok (ks ++ [v])
  | [], i, x, ks, v, _, h, _ => by simp at h
  | y :: l, 0, x, ks, v, h0, h, hx => by
    simp at h; subst h
    simp [evL] at h0; subst h0
    simp [evL, hx]
  | y :: l, i + 1, x, ks, v, h0, h, hx => by
    rw [List.take_succ_cons, evL] at h0 ⊢
    cases hf : evX vs gs cols rows y with
    | error e1 => rw [hf] at h0; cases h0
    | ok v1 =>
      rw [hf] at h0; simp only at h0 ⊢
      cases hl : evL vs gs cols rows (l.take i) with
      | error e1 => rw [hl] at h0; cases h0
      | ok k1 =>
        rw [hl] at h0; simp only at h0; cases h0
        rw [evL_snoc hl (by simpa using h) hx]; rfl
theorem evL_len {rows : List (List Vl)} : ∀ {l : List Ex} {ks : List Vl}, evL vs gs cols rows l = .ok ks → ks.length = l.length
  | [], ks, h => by simp [evL] at h; subst h; rfl
  | y :: l, ks, h => by
    rw [evL] at h
    cases hf : evX vs gs cols rows y with
    | error e1 => rw [hf] at h; cases h
    | ok v1 =>
      rw [hf] at h; simp only at h
      cases hl : evL vs gs cols rows l with
      | error e1 => rw [hl] at h; cases h
      | ok k1 => rw [hl] at h; simp only at h; cases h; simp [evL_len hl]
end
/-! ### more small walks -/
theorem null1_q {R : Hp} (v : Vl) : QTri Try.prog 61 [.agg ⟨valC v⟩] R [] (.bool (decide (v.kind = 0))) := by
  refine Tri.q2 ?_
  unfold valC
  refine tri_of Try.func61 rfl Try.ntmps61 rfl (fun σ F Q hret hend hpan => ?_)
  try simp only [List.cons_append, List.nil_append]
  refine cj_env (eL 0 rfl eN) ?_
  refine cj_seq (fun K1 hK1 => ?_)
  refine cj_region ?_
  refine rj_box (wn0 rfl) rfl rfl rfl (fun b1 => ?_)
  refine rv0 rfl rfl rfl (y_assign rfl) ?_
  refine rj_nil ?_
  refine hK1 _ _ _ ?_
  refine cj_seq (fun K2 hK2 => ?_)
  refine cj_region ?_
  refine rv0 rfl rfl rfl (y_fieldAddr (k := 0) Try.underlying26 rfl (n := 1) (by decide) Try.sizeOf3 rfl) ?_
  first | refine rv0 rfl rfl rfl (y_load ⟨Try.isAgg3, Try.sizeOf3⟩ rfl (by (repeat (first|exact zH _|apply zT));done) rfl) ?_ | refine rv0 rfl rfl rfl (y_load_slc ⟨Try.isAgg3, Try.sizeOf3⟩ rfl (by (repeat (first|exact zH _|apply zT));done) rfl) ?_
  refine rv0 rfl rfl rfl (y_eql rfl rfl) ?_
  refine rv0 rfl rfl rfl (y_assign rfl) ?_
  refine rj_nil ?_
  refine hK2 _ _ _ ?_
  refine cj_env (eL 2 rfl eN) ?_
  refine cj_ret ?_
  refine hret _ _ _ ?_
  apply ej_ret Try.results61 (.cons (rv_tmp rfl) .nil) _ [] (by (first | exact Hp.le_refl _ | assumption | exact Hp.le_trans ‹_› ‹_›)) rfl
  case hp => exact ⟨rfl, rfl⟩
  case hS => (repeat (first|exact zR _|(apply zP;focus (repeat (first|exact zH _|apply zT)))|apply zD|exact zA _ _))
theorem valIndex_q {R : Hp} (l : List Vl) (v : Value) (hl : FrX valE R l v) : QTri Try.prog 81 [v, .func (.func 61) ⟨[]⟩ ⟨[]⟩] R [] (.int .i64 (idxI (fun v => decide (v.kind = 0)) l)) := by
  obtain ⟨q, cap, rfl, hcap, hcm⟩ := hl.shape
  have hlb : l.length ≤ maxLen := Nat.le_trans hcap hcm
  unfold maxLen at hlb
  refine Tri.q2 ?_
  refine tri_of Try.func81 rfl Try.ntmps81 rfl (fun σ F Q hret hend hpan => ?_)
  try simp only [List.cons_append, List.nil_append]
  refine cj_env (eL 0 rfl (eL 1 rfl eN)) ?_
  refine cj_seq (fun K1 hK1 => ?_)
  refine cj_region ?_
  refine rv0 rfl rfl rfl (y_assign rfl) ?_
  refine rj_nil ?_
  refine hK1 _ _ _ ?_
  refine cj_seq (fun K2 hK2 => ?_)
  refine cj_seq (fun K3 hK3 => ?_)
  refine cj_region ?_
  refine rv0 rfl rfl rfl (y_move rfl) ?_
  first | refine rv0 rfl rfl rfl (y_len_sl Try.underlying43 rfl) ?_ | refine rv0 rfl rfl rfl (y_len_slc Try.underlying43 rfl (by (repeat (first|exact zH _|apply zT));done)) ?_
  refine rv0 rfl rfl rfl (y_move rfl) ?_
  refine rj_nil ?_
  refine hK3 _ _ _ ?_
  refine cj_block ?_
  refine cj_env (E' := (fun (x : Nat) => [(0, .slice q l.length cap), (1, .func (.func 61) ⟨[]⟩ ⟨[]⟩), (7, .int .i64 (l.length : Int)), (8, .int .i64 (x : Int))]) 0) (eC rfl (eC rfl (eC rfl (eC rfl eN)))) ?_
  refine cj_sub (M := (fun (x : Nat) => F) 0) (by (repeat (first|exact zR _|(apply zP;focus (repeat (first|exact zH _|apply zT)))|apply zD|exact zA _ _))) ?_
  refine cj_loop (fun (x : Nat) => [(0, .slice q l.length cap), (1, .func (.func 61) ⟨[]⟩ ⟨[]⟩), (7, .int .i64 (l.length : Int)), (8, .int .i64 (x : Int))]) (fun (x : Nat) => R) (fun (x : Nat) => F) (fun (x : Nat) => x ≤ l.length ∧ (l.take x).any (fun v => decide (v.kind = 0)) = false) (fun (x : Nat) => l.length - x) 0 (⟨by simp, by simp⟩) ?_
  rintro i ⟨hi, hall⟩
  try dsimp only
  refine cj_seq (fun K4 hK4 => ?_)
  refine cj_region ?_
  refine rv0 rfl rfl rfl (y_lss rfl rfl) ?_
  refine rj_nil ?_
  refine hK4 _ _ _ ?_
  refine cj_seq (fun K5 hK5 => ?_)
  refine cj_cond rfl (fun hc9 => ?_) (fun hc9 => ?_)
  ·try simp only [dT, dF, nT, nF, tF, fT] at hc9
   refine cj_skip ?_
   refine hK5 _ _ _ ?_
   refine cj_seq (fun K7 hK7 => ?_)
   refine cj_block ?_
   refine cj_seq (fun K8 hK8 => ?_)
   refine cj_region ?_
   obtain ⟨x, hx⟩ : ∃ x, l[i]? = some x := ⟨l[i]'(by omega), by simp⟩
   obtain ⟨b', off, cap', cs, he, rfl, hcl, hcell⟩ := hl.at hx
   obtain ⟨rfl, rfl⟩ : q = some ⟨b', off, none⟩ ∧ cap = cap' := by cases he; exact ⟨rfl, rfl⟩
   refine rv0 rfl rfl rfl (y_move rfl) ?_
   refine rv0 rfl rfl rfl (y_assign rfl) ?_
   refine rj_nil ?_
   refine hK8 _ _ _ ?_
   refine cj_seq (fun K9 hK9 => ?_)
   refine cj_region ?_
   refine rv0 rfl rfl rfl (y_move rfl) ?_
   refine rv0 rfl rfl rfl (y_move rfl) ?_
   refine rv0 rfl rfl rfl (y_move rfl) ?_
   first | refine rv0 rfl rfl rfl (y_indexAddr Try.underlying43 Try.sizeOf26 rfl rfl (by (first | omega | (dsimp only; omega) | (simp; done) | (simp; omega)))) ?_ | refine rv0 rfl rfl rfl (y_index_slc Try.underlying43 Try.sizeOf26 rfl rfl (by (repeat (first|exact zH _|apply zT));done) (by (first | omega | (dsimp only; omega) | (simp; done) | (simp; omega)))) ?_
   refine rv0 rfl rfl rfl ((y_loads_ro ⟨Try.isAgg26, Try.sizeOf26⟩ (vs := valC x) rfl rfl (fun j u hj => hcell j u hj))) ?_
   refine rv0 rfl rfl rfl (y_callv rfl Try.call61 rfl (null1_q x) (by (repeat (first|exact zN _|(apply zS;focus (repeat (first|exact zH _|apply zT))))))) ?_
   refine rj_nil ?_
   refine hK9 _ _ _ ?_
   refine cj_env (eL 0 rfl (eL 1 rfl (eL 5 rfl (eL 7 rfl (eL 8 rfl (eL 16 rfl eN)))))) ?_
   refine cj_cond rfl (fun hc16 => ?_) (fun hc16 => ?_)
   ·try simp only [dT, dF, nT, nF, tF, fT] at hc16
    refine cj_seq (fun K11 hK11 => ?_)
    refine cj_region ?_
    refine rv0 rfl rfl rfl (y_move rfl) ?_
    refine rv0 rfl rfl rfl (y_assign rfl) ?_
    refine rj_nil ?_
    refine hK11 _ _ _ ?_
    refine cj_env (eL 4 rfl eN) ?_
    refine cj_ret ?_
    refine hret _ _ _ ?_
    apply ej_ret Try.results81 (.cons (rv_tmp rfl) .nil) _ [] (by (first | exact Hp.le_refl _ | assumption | exact Hp.le_trans ‹_› ‹_›)) rfl
    case hp => refine ⟨?_, rfl⟩; rw [idxI_hit hx hall (by simpa using hc16)]; rfl
    case hS => (repeat (first|exact zR _|(apply zP;focus (repeat (first|exact zH _|apply zT)))|apply zD|exact zA _ _))
   ·try simp only [dT, dF, nT, nF, tF, fT] at hc16
    refine cj_skip ?_
    refine hK7 _ _ _ ?_
    refine cj_region ?_
    first | refine rv0 rfl rfl rfl (y_add64 rfl rfl (by (first | omega | (dsimp only; omega) | (simp; done) | (simp; omega)))) ?_ | refine rv0 rfl rfl rfl (y_add rfl rfl) ?_
    refine rv0 rfl rfl rfl (y_move rfl) ?_
    refine rj_nil ?_
    refine ej_on (q' := roundK _ _ _ _ _ _ _) rfl ?_
    refine ej_round (i + 1) (⟨by omega, by rw [List.take_add_one, hx]; simp [hall, hc16]⟩) (by omega) (eC rfl (eC rfl (eC rfl (eC rfl eN)))) rfl (by (repeat (first|exact zR _|(apply zP;focus (repeat (first|exact zH _|apply zT)))|apply zD|exact zA _ _)))
  ·try simp only [dT, dF, nT, nF, tF, fT] at hc9
   refine cj_exit ?_
   refine hK2 _ _ _ ?_
   refine cj_env eN ?_
   refine cj_seq (fun K12 hK12 => ?_)
   refine cj_region ?_
   refine rv0 rfl rfl rfl (y_assign rfl) ?_
   refine rj_nil ?_
   refine hK12 _ _ _ ?_
   refine cj_ret ?_
   refine hret _ _ _ ?_
   apply ej_ret Try.results81 (.cons (rv_tmp rfl) .nil) _ [] (by (first | exact Hp.le_refl _ | assumption | exact Hp.le_trans ‹_› ‹_›)) rfl
   case hp => refine ⟨?_, rfl⟩; rw [List.take_of_length_le (by omega)] at hall; rw [idxI_none hall]; rfl
   case hS => (repeat (first|exact zR _|(apply zP;focus (repeat (first|exact zH _|apply zT)))|apply zD|exact zA _ _))
theorem anyNull_q {R : Hp} (l : List Vl) (v : Value) (hl : FrX valE R l v) : QTri Try.prog 60 [v, .func (.func 61) ⟨[]⟩ ⟨[]⟩] R [] (.bool (anyNull l)) := by
  refine Tri.q2 ?_
  refine tri_of Try.func60 rfl Try.ntmps60 rfl (fun σ F Q hret hend hpan => ?_)
  try simp only [List.cons_append, List.nil_append]
  refine cj_env (eL 0 rfl (eL 1 rfl eN)) ?_
  refine cj_seq (fun K1 hK1 => ?_)
  refine cj_region ?_
  refine rv0 rfl rfl rfl (y_assign rfl) ?_
  refine rj_nil ?_
  refine hK1 _ _ _ ?_
  refine cj_seq (fun K2 hK2 => ?_)
  refine cj_region ?_
  refine rv0 rfl rfl rfl (y_move rfl) ?_
  refine rv0 rfl rfl rfl (y_move rfl) ?_
  refine rv0 rfl rfl rfl (y_call Try.call81 rfl (valIndex_q l v hl) (by (repeat (first|exact zN _|(apply zS;focus (repeat (first|exact zH _|apply zT))))))) ?_
  refine rv0 rfl rfl rfl (y_geq rfl rfl) ?_
  refine rv0 rfl rfl rfl (y_assign rfl) ?_
  refine rj_nil ?_
  refine hK2 _ _ _ ?_
  refine cj_env (eL 4 rfl eN) ?_
  refine cj_ret ?_
  refine hret _ _ _ ?_
  apply ej_ret Try.results60 (.cons (rv_tmp rfl) .nil) _ [] (by (first | exact Hp.le_refl _ | assumption | exact Hp.le_trans ‹_› ‹_›)) rfl
  case hp => refine ⟨?_, rfl⟩; unfold anyNull; simp only [tupOf]; congr 1; rw [Bool.eq_iff_iff, decide_eq_true_iff, ← idxI_any]
  case hS => (repeat (first|exact zR _|(apply zP;focus (repeat (first|exact zH _|apply zT)))|apply zD|exact zA _ _))
theorem decV_hit {w : Bool} {x y z : Vl} {i : Nat} (h : [x, y][i]? = some z) (hp : (!decide (z.kind = 0) && decide (trueV z = w)) = true) : decV w x y = truthV w := by
  unfold decV
  match i, h with
  | 0, h => simp at h; subst h; rw [hp]; rfl
  | 1, h => simp at h; subst h; rw [hp, Bool.or_true]; rfl
theorem decV_no {w : Bool} {x y : Vl} (hall : ∀ (j : Nat) (v : Vl), j < 2 → [x, y][j]? = some v → (!decide (v.kind = 0) && decide (trueV v = w)) = false) : decV w x y = if x.kind = 0 ∨ y.kind = 0 then Vl.zero else truthV (!w) := by
  unfold decV
  rw [hall 0 x (by omega) rfl, hall 1 y (by omega) rfl]; rfl
theorem decides_q {R : Hp} (op : Op) (x y : Vl) (v : Value) (hl : FrX valE R [x, y] v) : QTri Try.prog 63 [.string (str op.str), v] R [] (.agg ⟨valC (decV (decide (op = .or)) x y)⟩) := by
  obtain ⟨b, off, cap, cs0, rfl, rfl, hcl0, hcell0⟩ := hl.at (i := 0) (x := x) rfl
  obtain ⟨b2, off2, cap2, cs1, he, rfl, hcl1, hcell1⟩ := hl.at (i := 1) (x := y) rfl
  obtain ⟨rfl, rfl, rfl⟩ : b = b2 ∧ off = off2 ∧ cap = cap2 := by cases he; exact ⟨rfl, rfl, rfl⟩
  obtain ⟨w, hw⟩ : ∃ w, w = decide (op = .or) := ⟨_, rfl⟩
  have how : decide (op.str = [111, 114]) = w := by rw [hw]; cases op <;> rfl
  rw [← hw]
  refine Tri.q2 ?_
  refine tri_of Try.func63 rfl Try.ntmps63 rfl (fun σ F Q hret hend hpan => ?_)
  try simp only [List.cons_append, List.nil_append]
  refine cj_env (eL 0 rfl (eL 1 rfl eN)) ?_
  refine cj_seq (fun K1 hK1 => ?_)
  refine cj_region ?_
  refine rj_alloc (wn0 rfl) rfl Try.zeroValue26 rfl (fun b4 => ?_)
  refine rj_nil ?_
  refine hK1 _ _ _ ?_
  refine cj_seq (fun K2 hK2 => ?_)
  refine cj_region ?_
  refine rv0 rfl rfl rfl (y_move rfl) ?_
  refine rv0 rfl rfl rfl (y_seql rfl rfl) ?_
  refine rj_eq 9 rfl (v' := .bool w) (by rw [how]) ?_
  refine rv0 rfl rfl rfl (y_assign rfl) ?_
  refine rj_nil ?_
  refine hK2 _ _ _ ?_
  refine cj_env (eL 1 rfl (eL 4 rfl (eL 5 rfl eN))) ?_
  refine cj_seq (fun K3 hK3 => ?_)
  refine cj_seq (fun K4 hK4 => ?_)
  refine cj_region ?_
  refine rv0 rfl rfl rfl (y_move rfl) ?_
  first | refine rv0 rfl rfl rfl (y_len_sl Try.underlying43 rfl) ?_ | refine rv0 rfl rfl rfl (y_len_slc Try.underlying43 rfl (by (repeat (first|exact zH _|apply zT));done)) ?_
  refine rv0 rfl rfl rfl (y_move rfl) ?_
  refine rj_nil ?_
  refine hK4 _ _ _ ?_
  refine cj_block ?_
  refine cj_env (E' := (fun (x1 : Nat) => [(1, .slice (some ⟨b, off, none⟩) 2 cap), (4, .pointer (some ⟨b4, 0, none⟩)), (5, .bool w), (10, .slice (some ⟨b, off, none⟩) 2 cap), (11, .int .i64 2), (12, .int .i64 (x1 : Int))]) 0) (eC rfl (eC rfl (eC rfl (eC rfl (eC rfl (eC rfl eN)))))) ?_
  refine cj_sub (M := (fun (x1 : Nat) => blk b4 (valC Vl.zero) 26 :: F) 0) (by (repeat (first|exact zR _|(apply zP;focus (repeat (first|exact zH _|apply zT)))|apply zD|exact zA _ _))) ?_
  refine cj_loop (fun (x1 : Nat) => [(1, .slice (some ⟨b, off, none⟩) 2 cap), (4, .pointer (some ⟨b4, 0, none⟩)), (5, .bool w), (10, .slice (some ⟨b, off, none⟩) 2 cap), (11, .int .i64 2), (12, .int .i64 (x1 : Int))]) (fun (x1 : Nat) => R) (fun (x1 : Nat) => blk b4 (valC Vl.zero) 26 :: F) (fun (x1 : Nat) => x1 ≤ 2 ∧ (∀ (j : Nat) (v : Vl), j < x1 → [x, y][j]? = some v → (!decide (v.kind = 0) && decide (trueV v = w)) = false)) (fun (x1 : Nat) => 2 - x1) 0 (⟨by simp, fun j v h => by omega⟩) ?_
  rintro i ⟨hi, hall⟩
  try dsimp only
  refine cj_seq (fun K5 hK5 => ?_)
  refine cj_region ?_
  refine rv0 rfl rfl rfl (y_lss rfl rfl) ?_
  refine rj_nil ?_
  refine hK5 _ _ _ ?_
  refine cj_seq (fun K6 hK6 => ?_)
  refine cj_cond rfl (fun hc13 => ?_) (fun hc13 => ?_)
  ·try simp only [dT, dF, nT, nF, tF, fT] at hc13
   refine cj_skip ?_
   refine hK6 _ _ _ ?_
   refine cj_seq (fun K8 hK8 => ?_)
   refine cj_block ?_
   refine cj_seq (fun K9 hK9 => ?_)
   refine cj_region ?_
   obtain ⟨z, hz⟩ : ∃ z, [x, y][i]? = some z := ⟨[x, y][i]'(by simp; omega), by simp⟩
   obtain ⟨bz, offz, capz, csz, hez, rfl, hclz, hcellz⟩ := hl.at hz
   obtain ⟨rfl, rfl, rfl⟩ : b = bz ∧ off = offz ∧ cap = capz := by cases hez; exact ⟨rfl, rfl, rfl⟩
   first | refine rv0 rfl rfl rfl (y_indexAddr Try.underlying43 Try.sizeOf26 rfl rfl (by (first | omega | (dsimp only; omega) | (simp; done) | (simp; omega)))) ?_ | refine rv0 rfl rfl rfl (y_index_slc Try.underlying43 Try.sizeOf26 rfl rfl (by (repeat (first|exact zH _|apply zT));done) (by (first | omega | (dsimp only; omega) | (simp; done) | (simp; omega)))) ?_
   refine rv0 rfl rfl rfl ((y_loads_ro ⟨Try.isAgg26, Try.sizeOf26⟩ (vs := valC z) rfl rfl (fun j u hj => hcellz j u hj))) ?_
   refine rj_alloc (wn0 rfl) rfl Try.zeroValue26 rfl (fun b7 => ?_)
   refine rj_stores_all (vs := valC z) ⟨Try.isAgg26, Try.sizeOf26⟩ rfl (wn0 rfl) rfl rfl (valE.one (R := R) (x := z) rfl) (by (repeat (first|exact zH _|apply zT));done) rfl ?_
   refine rj_nil ?_
   refine hK9 _ _ _ ?_
   refine cj_env (eL 1 rfl (eL 4 rfl (eL 5 rfl (eL 7 rfl (eL 10 rfl (eL 11 rfl (eL 12 rfl eN))))))) ?_
   refine cj_seq (fun K10 hK10 => ?_)
   refine cj_region ?_
   refine rv0 rfl rfl rfl (y_fieldAddr (k := 0) Try.underlying26 rfl (n := 1) (by decide) Try.sizeOf3 rfl) ?_
   first | refine rv0 rfl rfl rfl (y_load ⟨Try.isAgg3, Try.sizeOf3⟩ rfl (by (repeat (first|exact zH _|apply zT));done) rfl) ?_ | refine rv0 rfl rfl rfl (y_load_slc ⟨Try.isAgg3, Try.sizeOf3⟩ rfl (by (repeat (first|exact zH _|apply zT));done) rfl) ?_
   refine rv0 rfl rfl rfl (y_neq rfl rfl) ?_
   refine rv0 rfl rfl rfl (y_move rfl) ?_
   refine rj_part 19 rfl (fun hg19 => ?_) (fun hg19 => ?_)
   ·try simp only [dT, dF, nT, nF, tF, fT] at hg19
    refine rj_val (wn1 rfl rfl rfl rfl) rfl rfl ((y_loads_all (vs := valC z) ⟨Try.isAgg26, Try.sizeOf26⟩ rfl rfl (by (repeat (first|exact zH _|apply zT));done))) ?_
    refine rj_val (wn1 rfl rfl rfl rfl) rfl rfl (y_call Try.call26 rfl (true_q z) (by (repeat (first|exact zN _|(apply zS;focus (repeat (first|exact zH _|apply zT))))))) ?_
    refine rj_val (wn1 rfl rfl rfl rfl) rfl rfl (y_move rfl) ?_
    refine rj_val (wn1 rfl rfl rfl rfl) rfl rfl (y_beql Try.underlying4 rfl rfl) ?_
    refine rv0 rfl rfl rfl (y_pick_t rfl rfl) ?_
    refine rj_nil ?_
    refine hK10 _ _ _ ?_
    refine cj_env (eL 1 rfl (eL 4 rfl (eL 5 rfl (eL 10 rfl (eL 11 rfl (eL 12 rfl (eL 24 rfl eN))))))) ?_
    refine cj_cond rfl (fun hc24 => ?_) (fun hc24 => ?_)
    ·try simp only [dT, dF, nT, nF, tF, fT] at hc24
     refine cj_seq (fun K12 hK12 => ?_)
     refine cj_region ?_
     refine rv0 rfl rfl rfl (y_move rfl) ?_
     refine rv0 rfl rfl rfl (y_call Try.call62 rfl (truth_q _) (by (repeat (first|exact zN _|(apply zS;focus (repeat (first|exact zH _|apply zT))))))) ?_
     refine rj_stores_all (vs := valC (truthV w)) ⟨Try.isAgg26, Try.sizeOf26⟩ rfl (wn0 rfl) rfl rfl (valE.one (R := R) (x := truthV w) rfl) (by (repeat (first|exact zH _|apply zT));done) rfl ?_
     refine rj_nil ?_
     refine hK12 _ _ _ ?_
     refine cj_env (eL 4 rfl eN) ?_
     refine cj_ret ?_
     refine hret _ _ _ ?_
     apply ej_ret Try.results63 (.cons (rv_cells ⟨Try.isAgg26, Try.sizeOf26⟩ rfl (by (repeat (first|exact zH _|apply zT));done) rfl rfl) .nil) _ [] (by (first | exact Hp.le_refl _ | assumption | exact Hp.le_trans ‹_› ‹_›)) rfl
     case hp => refine ⟨?_, rfl⟩; rw [decV_hit hz (by simp_all)]; rfl
     case hS => (repeat (first|exact zR _|(apply zP;focus (repeat (first|exact zH _|apply zT)))|apply zD|exact zA _ _))
    ·try simp only [dT, dF, nT, nF, tF, fT] at hc24
     refine cj_skip ?_
     refine hK8 _ _ _ ?_
     refine cj_region ?_
     first | refine rv0 rfl rfl rfl (y_add64 rfl rfl (by (first | omega | (dsimp only; omega) | (simp; done) | (simp; omega)))) ?_ | refine rv0 rfl rfl rfl (y_add rfl rfl) ?_
     refine rv0 rfl rfl rfl (y_move rfl) ?_
     refine rj_nil ?_
     refine ej_on (q' := roundK _ _ _ _ _ _ _) rfl ?_
     refine ej_round (i + 1) (⟨by omega, fun j v h h1 => by rcases Nat.lt_succ_iff_lt_or_eq.1 h with (h|rfl); exact hall j v h h1; rw [hz] at h1; cases h1; simp_all⟩) (by omega) (eC rfl (eC rfl (eC rfl (eC rfl (eC rfl (eC rfl eN)))))) rfl (by (repeat (first|exact zR _|(apply zP;focus (repeat (first|exact zH _|apply zT)))|apply zD|exact zA _ _)))
   ·try simp only [dT, dF, nT, nF, tF, fT] at hg19
    refine rj_skip (wn2 rfl rfl rfl rfl rfl) rfl rfl ?_
    refine rj_skip (wn2 rfl rfl rfl rfl rfl) rfl rfl ?_
    refine rj_skip (wn2 rfl rfl rfl rfl rfl) rfl rfl ?_
    refine rj_skip (wn2 rfl rfl rfl rfl rfl) rfl rfl ?_
    refine rv0 rfl rfl rfl (y_pick_f rfl rfl) ?_
    refine rj_nil ?_
    refine hK10 _ _ _ ?_
    refine cj_env (eL 1 rfl (eL 4 rfl (eL 5 rfl (eL 10 rfl (eL 11 rfl (eL 12 rfl (eL 24 rfl eN))))))) ?_
    refine cj_cond_f rfl ?_
    refine cj_skip ?_
    refine hK8 _ _ _ ?_
    refine cj_region ?_
    first | refine rv0 rfl rfl rfl (y_add64 rfl rfl (by (first | omega | (dsimp only; omega) | (simp; done) | (simp; omega)))) ?_ | refine rv0 rfl rfl rfl (y_add rfl rfl) ?_
    refine rv0 rfl rfl rfl (y_move rfl) ?_
    refine rj_nil ?_
    refine ej_on (q' := roundK _ _ _ _ _ _ _) rfl ?_
    refine ej_round (i + 1) (⟨by omega, fun j v h h1 => by rcases Nat.lt_succ_iff_lt_or_eq.1 h with (h|rfl); exact hall j v h h1; rw [hz] at h1; cases h1; simp_all⟩) (by omega) (eC rfl (eC rfl (eC rfl (eC rfl (eC rfl (eC rfl eN)))))) rfl (by (repeat (first|exact zR _|(apply zP;focus (repeat (first|exact zH _|apply zT)))|apply zD|exact zA _ _)))
  ·try simp only [dT, dF, nT, nF, tF, fT] at hc13
   refine cj_exit ?_
   refine hK3 _ _ _ ?_
   refine cj_env (eL 1 rfl (eL 4 rfl (eL 5 rfl eN))) ?_
   refine cj_seq (fun K13 hK13 => ?_)
   refine cj_seq (fun K14 hK14 => ?_)
   refine cj_region ?_
   obtain rfl : i = 2 := by (try simp at hc13); omega
   have hdn := decV_no hall
   refine rv0 rfl rfl rfl (y_move rfl) ?_
   first | refine rv0 rfl rfl rfl (y_indexAddr Try.underlying43 Try.sizeOf26 rfl rfl (by (first | omega | (dsimp only; omega) | (simp; done) | (simp; omega)))) ?_ | refine rv0 rfl rfl rfl (y_index_slc Try.underlying43 Try.sizeOf26 rfl rfl (by (repeat (first|exact zH _|apply zT));done) (by (first | omega | (dsimp only; omega) | (simp; done) | (simp; omega)))) ?_
   refine rv0 rfl rfl rfl (y_fieldAddr (k := 0) Try.underlying26 rfl (n := 1) (by decide) Try.sizeOf3 rfl) ?_
   refine rv0 rfl rfl rfl ((y_load_ro ⟨Try.isAgg3, Try.sizeOf3⟩ rfl (hcell0 0 (.int .i64 x.kind) rfl))) ?_
   refine rv0 rfl rfl rfl (y_eql rfl rfl) ?_
   refine rv0 rfl rfl rfl (y_move rfl) ?_
   refine rj_part 33 rfl (fun hg33 => ?_) (fun hg33 => ?_)
   ·try simp only [dT, dF, nT, nF, tF, fT] at hg33
    refine rj_skip (wn2 rfl rfl rfl rfl rfl) rfl rfl ?_
    refine rj_skip (wn2 rfl rfl rfl rfl rfl) rfl rfl ?_
    refine rj_skip (wn2 rfl rfl rfl rfl rfl) rfl rfl ?_
    refine rj_skip (wn2 rfl rfl rfl rfl rfl) rfl rfl ?_
    refine rj_skip (wn2 rfl rfl rfl rfl rfl) rfl rfl ?_
    refine rv0 rfl rfl rfl (y_pick_t rfl rfl) ?_
    refine rj_nil ?_
    refine hK14 _ _ _ ?_
    refine cj_env (eL 4 rfl (eL 5 rfl (eL 39 rfl eN))) ?_
    refine cj_cond_t rfl ?_
    refine cj_seq (fun K15 hK15 => ?_)
    refine cj_region ?_
    refine rv0 rfl rfl rfl (y_build (cells := [_, _, _]) [(0, 1), (1, 1), (2, 1)] Try.underlying26 Try.zeroValue26 (fun _ => rfl) rfl rfl) ?_
    refine rj_stores_all (vs := valC Vl.zero) ⟨Try.isAgg26, Try.sizeOf26⟩ rfl (wn0 rfl) rfl rfl (valE.one (R := R) (x := Vl.zero) rfl) (by (repeat (first|exact zH _|apply zT));done) rfl ?_
    refine rj_nil ?_
    refine hK15 _ _ _ ?_
    refine cj_env (eL 4 rfl eN) ?_
    refine cj_ret ?_
    refine hret _ _ _ ?_
    apply ej_ret Try.results63 (.cons (rv_cells ⟨Try.isAgg26, Try.sizeOf26⟩ rfl (by (repeat (first|exact zH _|apply zT));done) rfl rfl) .nil) _ [] (by (first | exact Hp.le_refl _ | assumption | exact Hp.le_trans ‹_› ‹_›)) rfl
    case hp => refine ⟨?_, rfl⟩; rw [hdn]; first | (rw [if_pos (.inl (by simpa using hg33))]; rfl) | (rw [if_pos (.inr (by simpa using hc39))]; rfl) | (rw [if_neg (by simp_all)]; rfl)
    case hS => (repeat (first|exact zR _|(apply zP;focus (repeat (first|exact zH _|apply zT)))|apply zD|exact zA _ _))
   ·try simp only [dT, dF, nT, nF, tF, fT] at hg33
    refine rj_val (wn1 rfl rfl rfl rfl) rfl rfl (y_move rfl) ?_
    first | refine rj_val (wn1 rfl rfl rfl rfl) rfl rfl (y_indexAddr Try.underlying43 Try.sizeOf26 rfl rfl (by (first | omega | (dsimp only; omega) | (simp; done) | (simp; omega)))) ?_ | refine rj_val (wn1 rfl rfl rfl rfl) rfl rfl (y_index_slc Try.underlying43 Try.sizeOf26 rfl rfl (by (repeat (first|exact zH _|apply zT));done) (by (first | omega | (dsimp only; omega) | (simp; done) | (simp; omega)))) ?_
    refine rj_val (wn1 rfl rfl rfl rfl) rfl rfl (y_fieldAddr (k := 0) Try.underlying26 rfl (n := 1) (by decide) Try.sizeOf3 rfl) ?_
    refine rj_val (wn1 rfl rfl rfl rfl) rfl rfl ((y_load_ro ⟨Try.isAgg3, Try.sizeOf3⟩ rfl (hcell1 0 (.int .i64 y.kind) rfl))) ?_
    refine rj_val (wn1 rfl rfl rfl rfl) rfl rfl (y_eql rfl rfl) ?_
    refine rv0 rfl rfl rfl (y_pick_f rfl rfl) ?_
    refine rj_nil ?_
    refine hK14 _ _ _ ?_
    refine cj_env (eL 4 rfl (eL 5 rfl (eL 39 rfl eN))) ?_
    refine cj_cond rfl (fun hc39 => ?_) (fun hc39 => ?_)
    ·try simp only [dT, dF, nT, nF, tF, fT] at hc39
     refine cj_seq (fun K17 hK17 => ?_)
     refine cj_region ?_
     refine rv0 rfl rfl rfl (y_build (cells := [_, _, _]) [(0, 1), (1, 1), (2, 1)] Try.underlying26 Try.zeroValue26 (fun _ => rfl) rfl rfl) ?_
     refine rj_stores_all (vs := valC Vl.zero) ⟨Try.isAgg26, Try.sizeOf26⟩ rfl (wn0 rfl) rfl rfl (valE.one (R := R) (x := Vl.zero) rfl) (by (repeat (first|exact zH _|apply zT));done) rfl ?_
     refine rj_nil ?_
     refine hK17 _ _ _ ?_
     refine cj_env (eL 4 rfl eN) ?_
     refine cj_ret ?_
     refine hret _ _ _ ?_
     apply ej_ret Try.results63 (.cons (rv_cells ⟨Try.isAgg26, Try.sizeOf26⟩ rfl (by (repeat (first|exact zH _|apply zT));done) rfl rfl) .nil) _ [] (by (first | exact Hp.le_refl _ | assumption | exact Hp.le_trans ‹_› ‹_›)) rfl
     case hp => refine ⟨?_, rfl⟩; rw [hdn]; first | (rw [if_pos (.inl (by simpa using hg33))]; rfl) | (rw [if_pos (.inr (by simpa using hc39))]; rfl) | (rw [if_neg (by simp_all)]; rfl)
     case hS => (repeat (first|exact zR _|(apply zP;focus (repeat (first|exact zH _|apply zT)))|apply zD|exact zA _ _))
    ·try simp only [dT, dF, nT, nF, tF, fT] at hc39
     refine cj_skip ?_
     refine hK13 _ _ _ ?_
     refine cj_seq (fun K18 hK18 => ?_)
     refine cj_region ?_
     refine rv0 rfl rfl rfl (y_move rfl) ?_
     refine rv0 rfl rfl rfl (y_not rfl) ?_
     refine rv0 rfl rfl rfl (y_call Try.call62 rfl (truth_q _) (by (repeat (first|exact zN _|(apply zS;focus (repeat (first|exact zH _|apply zT))))))) ?_
     refine rj_stores_all (vs := valC (truthV (!w))) ⟨Try.isAgg26, Try.sizeOf26⟩ rfl (wn0 rfl) rfl rfl (valE.one (R := R) (x := truthV (!w)) rfl) (by (repeat (first|exact zH _|apply zT));done) rfl ?_
     refine rj_nil ?_
     refine hK18 _ _ _ ?_
     refine cj_env (eL 4 rfl eN) ?_
     refine cj_ret ?_
     refine hret _ _ _ ?_
     apply ej_ret Try.results63 (.cons (rv_cells ⟨Try.isAgg26, Try.sizeOf26⟩ rfl (by (repeat (first|exact zH _|apply zT));done) rfl rfl) .nil) _ [] (by (first | exact Hp.le_refl _ | assumption | exact Hp.le_trans ‹_› ‹_›)) rfl
     case hp => refine ⟨?_, rfl⟩; rw [hdn]; first | (rw [if_pos (.inl (by simpa using hg33))]; rfl) | (rw [if_pos (.inr (by simpa using hc39))]; rfl) | (rw [if_neg (by simp_all)]; rfl)
     case hS => (repeat (first|exact zR _|(apply zP;focus (repeat (first|exact zH _|apply zT)))|apply zD|exact zA _ _))
end V
end Go.Proofs.Ytghgifgmacapcaa
