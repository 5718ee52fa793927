/- Calls that may be given up with a value: contracts and rules; what is put off. -/
import Derived.Test.YtcgjlhhfldkdaaaV17
import Derived.Test.YtcgjlhhfldkdaaaV15
import Derived.Defers
import Derived.Recover
import Derived.Laws.StructEq
set_option linter.unusedSimpArgs false
set_option linter.unusedVariables false
namespace Go.Proofs.Ytcgjlhhfldkdaaa
open Go.RowKit
namespace V
/-- a call that leaves memory alone, and hands back a value or is given up -/
def PTri (en : Int → PanicEntry) (P : Program) (f : FuncId) (args : List Value) (R : Hp) (L : List Asn) (res : Except Int Value) : Prop :=
  Tri P f args R L (fun u R' L' => R' = R ∧ res = .ok u ∧ L' = L) (fun ch R' L' => R' = R ∧ (∃ e, res = .error e ∧ ch = [en e]) ∧ L' = L)
section
variable {en : Int → PanicEntry} {P : Program} {f : FuncId} {args : List Value} {R : Hp} {L : List Asn} {res : Except Int Value} {v : Value}
theorem PTri.of (h : Tri P f args R L (fun u _ L' => res = .ok u ∧ L' = L) (fun ch _ L' => (∃ e, res = .error e ∧ ch = [en e]) ∧ L' = L)) : PTri en P f args R L res :=
  fun σ F w hs => (h σ F w hs).mono fun e w' ⟨R', L', hR, hw, hp⟩ => by
    cases e with
    | returned u => exact ⟨R, L', Hp.le_refl R, hw.shrink hR, rfl, hp.1, hp.2⟩
    | panicked ch => exact ⟨R, L', Hp.le_refl R, hw.shrink hR, rfl, hp.1, hp.2⟩
    | outgrown => exact hp.elim
theorem PTri.q (h : PTri en P f args R L (.ok v)) : QTri P f args R L v :=
  fun σ F w hs => (h σ F w hs).mono fun e w' ⟨R', L', hR, hw, hp⟩ => by
    cases e with
    | returned u => obtain ⟨rfl, h1, rfl⟩ := hp; cases h1; exact ⟨rfl, hw⟩
    | panicked ch => obtain ⟨_, ⟨e, h1, _⟩, _⟩ := hp; cases h1
    | outgrown => exact hp.elim
end
section
variable {en : Int → PanicEntry} {c : Cx} {ops : Array Oper} {Q : Exit → Act → World → Prop} {E : Env} {R : Hp} {L : List Asn} {rest : List Oper} {ty : TypeId} {p : String} {af : Array Edge} {g : Option (Nat × Bool)}
theorem rj_callp {d : Nat} {f : FuncId} {xs : List Operand} {ts : Array TypeId} {vs : List Value} {pre F : List Asn} {res : Except Int Value}
    (hw : Wn c ops E ⟨some d, .call { callee := .value (.func f), args := ⟨xs⟩, argTypes := ts }, ty, p, af, g⟩ true) (hn : Nat.blt d c.n = true) (hc : ∀ args w, (callFunc f args).run c.P w = .ok (.enter f args) w)
    (hv : evs E xs = some vs) (ht : PTri en c.P f vs R pre res) (hs : Split L pre F)
    (hp : ∀ e, res = .error e → EJ c (Q (.panic [en e])) E R L)
    (h : ∀ v, res = .ok v → RJ c ops Q rest ((d, v) :: E) R L) :
    RJ c ops Q (⟨some d, .call { callee := .value (.func f), args := ⟨xs⟩, argTypes := ts }, ty, p, af, g⟩ :: rest) E R L := by
  intro a w hf hsat
  unfold wpList
  rw [if_pos (hw a hf)]
  refine .inl ?_
  unfold Oper.wp
  rw [run_call hc (hf.evs hv)]
  simp only [Oper.upon]
  refine (ht _ _ _ (hs.sat hsat)).mono fun e w' ⟨R', L', hR, hw', hpost⟩ => ?_
  cases e with
  | returned v => obtain ⟨rfl, h1, rfl⟩ := hpost; exact h v h1 _ _ (hf.put hn v) (hs.satBack hw')
  | panicked ch => obtain ⟨rfl, ⟨e, h1, rfl⟩, rfl⟩ := hpost; exact hp e h1 _ _ hf (hs.satBack hw')
  | outgrown => exact hpost.elim
theorem rj_callp0 {f : FuncId} {xs : List Operand} {ts : Array TypeId} {vs : List Value} {pre F : List Asn} {res : Except Int Value}
    (hw : Wn c ops E ⟨none, .call { callee := .value (.func f), args := ⟨xs⟩, argTypes := ts }, ty, p, af, g⟩ true) (hc : ∀ args w, (callFunc f args).run c.P w = .ok (.enter f args) w)
    (hv : evs E xs = some vs) (ht : PTri en c.P f vs R pre res) (hs : Split L pre F)
    (hp : ∀ e, res = .error e → EJ c (Q (.panic [en e])) E R L)
    (h : ∀ v, res = .ok v → RJ c ops Q rest E R L) :
    RJ c ops Q (⟨none, .call { callee := .value (.func f), args := ⟨xs⟩, argTypes := ts }, ty, p, af, g⟩ :: rest) E R L := by
  intro a w hf hsat
  unfold wpList
  rw [if_pos (hw a hf)]
  refine .inl ?_
  unfold Oper.wp
  rw [run_call hc (hf.evs hv)]
  simp only [Oper.upon]
  refine (ht _ _ _ (hs.sat hsat)).mono fun e w' ⟨R', L', hR, hw', hpost⟩ => ?_
  cases e with
  | returned v => obtain ⟨rfl, h1, rfl⟩ := hpost; exact h v h1 _ _ hf (hs.satBack hw')
  | panicked ch => obtain ⟨rfl, ⟨e, h1, rfl⟩, rfl⟩ := hpost; exact hp e h1 _ _ hf (hs.satBack hw')
  | outgrown => exact hpost.elim
/-- to give up -/
theorem rj_panic {x : Operand} {t : TypeId} {u : Value} (hw : Wn c ops E ⟨none, .panic x, ty, p, af, g⟩ true) (e1 : ev E x = some (.iface t u))
    (h : EJ c (Q (.panic [⟨.iface t u, false, false⟩])) E R L) : RJ c ops Q (⟨none, .panic x, ty, p, af, g⟩ :: rest) E R L := by
  intro a w hf hs
  unfold wpList
  rw [if_pos (hw a hf)]
  refine .inl ?_
  have r : (execOp a.eval ⟨none, .panic x, ty, p, af, g⟩).run c.P w = .halt (.panic (.iface t u)) w := by
    simp [execOp, hf.ev e1, Instr.panic, goPanic]
  unfold Oper.wp
  rw [r]
  exact h a w hf hs
theorem y_makeInterface {d : Option Tmp} {x : Operand} {t : TypeId} {fs : Array Field} {u : Value} (hT : c.P.underlying t = some (.struct fs)) (e1 : ev E x = some u) : Yld c E R L ⟨d, .makeInterface t x, ty, p, af, g⟩ (.iface t u) := fun a w hf hs => by
  have r : (Instr.makeInterface t u).run c.P w = .ok (.iface t u) w := by
    unfold Instr.makeInterface
    simp [run_underlying hT]
  simp [execOp, hf.ev e1, r, Oper.quietUpon]
theorem y_neg {d : Option Tmp} {x : Operand} {t : TypeId} {k : IntKind} {n : Int} (e : ev E x = some (.int k n)) : Yld c E R L ⟨d, .unOp .neg t x, ty, p, af, g⟩ (.int k (k.wrap (-n))) :=
  fun _ w hf _ => by simp [execOp, hf.ev e, Op.unary, Op.intArith, Oper.quietUpon]
theorem y_slss {d : Option Tmp} {x y : Operand} {t t' : TypeId} {m n : List UInt8} (e1 : ev E x = some (.string (str m))) (e2 : ev E y = some (.string (str n))) :
    Yld c E R L ⟨d, .binOp .lss t x y t', ty, p, af, g⟩ (.bool (Op.bytesLess m n)) :=
  fun _ w hf _ => by simp [execOp, hf.ev e1, hf.ev e2, eqGuard, binOp, Op.stringOp, Oper.quietUpon]
theorem y_sgtr {d : Option Tmp} {x y : Operand} {t t' : TypeId} {m n : List UInt8} (e1 : ev E x = some (.string (str m))) (e2 : ev E y = some (.string (str n))) :
    Yld c E R L ⟨d, .binOp .gtr t x y t', ty, p, af, g⟩ (.bool (!(Op.bytesLess m n || (m == n)))) :=
  fun _ w hf _ => by simp [execOp, hf.ev e1, hf.ev e2, eqGuard, binOp, Op.stringOp, Oper.quietUpon]
/-- structs compared -/
theorem y_steq {d : Option Tmp} {x y : Operand} {t t' : TypeId} {xs ys : List Value} {b : Bool} (hm : c.P.eqGuardType c.P.depth t = false)
    (e1 : ev E x = some (.agg ⟨xs⟩)) (e2 : ev E y = some (.agg ⟨ys⟩)) (hr : ∀ w, (binOp .eql t (.agg ⟨xs⟩) (.agg ⟨ys⟩)).run c.P w = .ok (.bool b) w) : Yld c E R L ⟨d, .binOp .eql t x y t', ty, p, af, g⟩ (.bool b) :=
  fun a w hf _ => by
    have hg := run_eqGuard_agg (P := c.P) w .eql t x y ⟨xs⟩ ⟨ys⟩ hm
    simp [execOp, hf.ev e1, hf.ev e2, hg, hr w, Oper.quietUpon]
theorem y_stne {d : Option Tmp} {x y : Operand} {t t' : TypeId} {xs ys : List Value} {b : Bool} (hm : c.P.eqGuardType c.P.depth t = false)
    (e1 : ev E x = some (.agg ⟨xs⟩)) (e2 : ev E y = some (.agg ⟨ys⟩)) (hr : ∀ w, (binOp .neq t (.agg ⟨xs⟩) (.agg ⟨ys⟩)).run c.P w = .ok (.bool b) w) : Yld c E R L ⟨d, .binOp .neq t x y t', ty, p, af, g⟩ (.bool b) :=
  fun a w hf _ => by
    have hg := run_eqGuard_agg (P := c.P) w .neq t x y ⟨xs⟩ ⟨ys⟩ hm
    simp [execOp, hf.ev e1, hf.ev e2, hg, hr w, Oper.quietUpon]
theorem ej_panX {Qx : Exit → Act → World → Prop} {N : Act → World → Prop} {ch : List PanicEntry} (h : EJ c (Qx (.panic ch)) [] R L) : EJ c (Exit.then N (PE (panX c Qx)) (.panic ch)) E R L := fun a w hf hs =>
  ⟨ch, rfl, fun a' hf' => h a' w hf' hs⟩
end
end V
end Go.Proofs.Ytcgjlhhfldkdaaa
