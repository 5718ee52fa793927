/- More rules for values: comparing pointers and Bools, bits, shifts, quotients. -/
import Derived.Test.YtcgjlhhfldkdaaaV4
import Derived.Laws.Pointers
import Derived.Laws.Small
import Derived.Laws.LoneSync
set_option linter.unusedSimpArgs false
set_option linter.unusedVariables false
namespace Go.Proofs.Ytcgjlhhfldkdaaa
open Go.RowKit
namespace V
section
variable {c : Cx} {E : Env} {R : Hp} {L : List Asn} {d : Option Tmp} {ty : TypeId} {p : String} {af : Array Edge} {g : Option (Nat × Bool)}
theorem run_equalIn_pn {P : Program} (n : Nat) {t e : TypeId} {q : Option Addr} {w : World} (hT : P.underlying t = some (.pointer e)) : (Op.equalIn (n + 1) t (.pointer q) (.pointer none)).run P w = .ok q.isNone w := by
  cases q <;> simp [Op.equalIn, run_underlying hT]
theorem run_equal_pn {P : Program} {t e : TypeId} {q : Option Addr} {w : World} (hT : P.underlying t = some (.pointer e)) : (Op.equal t (.pointer q) (.pointer none)).run P w = .ok q.isNone w := run_equalIn_pn 9999 hT
theorem y_peql {x y : Operand} {t t' e : TypeId} {q : Option Addr} (hT : c.P.underlying t = some (.pointer e)) (e1 : ev E x = some (.pointer q)) (e2 : ev E y = some (.pointer none)) :
    Yld c E R L ⟨d, .binOp .eql t x y t', ty, p, af, g⟩ (.bool q.isNone) :=
  fun _ w hf _ => by simp [execOp, hf.ev e1, hf.ev e2, eqGuard, binOp, run_equal_pn hT, Oper.quietUpon]
theorem y_pneq {x y : Operand} {t t' e : TypeId} {q : Option Addr} (hT : c.P.underlying t = some (.pointer e)) (e1 : ev E x = some (.pointer q)) (e2 : ev E y = some (.pointer none)) :
    Yld c E R L ⟨d, .binOp .neq t x y t', ty, p, af, g⟩ (.bool (!q.isNone)) :=
  fun _ w hf _ => by simp [execOp, hf.ev e1, hf.ev e2, eqGuard, binOp, run_equal_pn hT, Oper.quietUpon]
theorem y_beql {x y : Operand} {t t' : TypeId} {m n : Bool} (hT : c.P.underlying t = some .bool) (e1 : ev E x = some (.bool m)) (e2 : ev E y = some (.bool n)) :
    Yld c E R L ⟨d, .binOp .eql t x y t', ty, p, af, g⟩ (.bool (m == n)) :=
  fun _ w hf _ => by simp [execOp, hf.ev e1, hf.ev e2, eqGuard, binOp, run_equal_bool w t m n hT, Oper.quietUpon]
theorem y_bneq {x y : Operand} {t t' : TypeId} {m n : Bool} (hT : c.P.underlying t = some .bool) (e1 : ev E x = some (.bool m)) (e2 : ev E y = some (.bool n)) :
    Yld c E R L ⟨d, .binOp .neq t x y t', ty, p, af, g⟩ (.bool (!(m == n))) :=
  fun _ w hf _ => by simp [execOp, hf.ev e1, hf.ev e2, eqGuard, binOp, run_equal_bool w t m n hT, Oper.quietUpon]
/-- bits -/
def bitOr (k : IntKind) (m n : Int) : Int := k.wrap ((BitVec.ofInt k.bits m ||| BitVec.ofInt k.bits n).toNat : Int)
def bitAnd (k : IntKind) (m n : Int) : Int := k.wrap ((BitVec.ofInt k.bits m &&& BitVec.ofInt k.bits n).toNat : Int)
theorem y_or {x y : Operand} {t t' : TypeId} {k : IntKind} {m n : Int} (e1 : ev E x = some (.int k m)) (e2 : ev E y = some (.int k n)) :
    Yld c E R L ⟨d, .binOp .or t x y t', ty, p, af, g⟩ (.int k (bitOr k m n)) :=
  fun _ w hf _ => by simp [execOp, hf.ev e1, hf.ev e2, eqGuard, binOp, Op.intBits, Oper.quietUpon, bitOr]
theorem y_and {x y : Operand} {t t' : TypeId} {k : IntKind} {m n : Int} (e1 : ev E x = some (.int k m)) (e2 : ev E y = some (.int k n)) :
    Yld c E R L ⟨d, .binOp .and t x y t', ty, p, af, g⟩ (.int k (bitAnd k m n)) :=
  fun _ w hf _ => by simp [execOp, hf.ev e1, hf.ev e2, eqGuard, binOp, Op.intBits, Oper.quietUpon, bitAnd]
theorem y_shl {x y : Operand} {t t' : TypeId} {k k' : IntKind} {m n : Int} (e1 : ev E x = some (.int k m)) (e2 : ev E y = some (.int k' n)) (h : 0 ≤ n) :
    Yld c E R L ⟨d, .binOp .shl t x y t', ty, p, af, g⟩ (.int k (k.wrap (m * 2 ^ min n.toNat k.bits))) :=
  fun _ w hf _ => by
    have : ¬ n < 0 := by omega
    simp [execOp, hf.ev e1, hf.ev e2, eqGuard, binOp, Op.shift, this, Oper.quietUpon]
theorem y_shr {x y : Operand} {t t' : TypeId} {k k' : IntKind} {m n : Int} (e1 : ev E x = some (.int k m)) (e2 : ev E y = some (.int k' n)) (h : 0 ≤ n) :
    Yld c E R L ⟨d, .binOp .shr t x y t', ty, p, af, g⟩ (.int k (m.fdiv (2 ^ min n.toNat k.bits))) :=
  fun _ w hf _ => by
    have : ¬ n < 0 := by omega
    simp [execOp, hf.ev e1, hf.ev e2, eqGuard, binOp, Op.shift, this, Oper.quietUpon]
theorem y_rem {x y : Operand} {t t' : TypeId} {k : IntKind} {m n : Int} (e1 : ev E x = some (.int k m)) (e2 : ev E y = some (.int k n)) (h : n ≠ 0) :
    Yld c E R L ⟨d, .binOp .rem t x y t', ty, p, af, g⟩ (.int k (m.tmod n)) :=
  fun _ w hf _ => by simp [execOp, hf.ev e1, hf.ev e2, eqGuard, binOp, Op.intDiv, h, Oper.quietUpon]
theorem y_quo {x y : Operand} {t t' : TypeId} {k : IntKind} {m n : Int} (e1 : ev E x = some (.int k m)) (e2 : ev E y = some (.int k n)) (h : n ≠ 0) :
    Yld c E R L ⟨d, .binOp .quo t x y t', ty, p, af, g⟩ (.int k (k.wrap (m.tdiv n))) :=
  fun _ w hf _ => by simp [execOp, hf.ev e1, hf.ev e2, eqGuard, binOp, Op.intDiv, h, Oper.quietUpon]
/-- body-less functions that the model stands in for -/
theorem y_extern {f : FuncId} {xs : List Operand} {ts : Array TypeId} {vs : List Value} {v : Value} (hv : evs E xs = some vs)
    (hr : ∀ w, Sat c.σ R L w → (callFunc f ⟨vs⟩).run c.P w = .ok (.value v) w) : Yld c E R L ⟨d, .call { callee := .value (.func f), args := ⟨xs⟩, argTypes := ts }, ty, p, af, g⟩ v :=
  fun a w hf hs => by
    have e : (Array.mk xs).map a.eval = ⟨vs⟩ := by rw [← hf.evs hv]; simp
    simp [execOp, resolve, Act.eval, Deferred.ofValue, invoke, e, hr w hs, Oper.quietUpon]
end
theorem rj_extern {c : Cx} {ops : Array Oper} {Q : Exit → Act → World → Prop} {E : Env} {R : Hp} {L L' : List Asn} {rest : List Oper} {ty : TypeId} {p : String} {af : Array Edge} {g : Option (Nat × Bool)} {d : Nat} {f : FuncId} {xs : List Operand} {ts : Array TypeId} {vs : List Value} {v : Value}
    (hw : Wn c ops E ⟨some d, .call { callee := .value (.func f), args := ⟨xs⟩, argTypes := ts }, ty, p, af, g⟩ true) (hn : Nat.blt d c.n = true) (hv : evs E xs = some vs)
    (hr : ∀ w, Sat c.σ R L w → ∃ w', (callFunc f ⟨vs⟩).run c.P w = .ok (.value v) w' ∧ Sat c.σ R L' w') (h : RJ c ops Q rest ((d, v) :: E) R L') :
    RJ c ops Q (⟨some d, .call { callee := .value (.func f), args := ⟨xs⟩, argTypes := ts }, ty, p, af, g⟩ :: rest) E R L := by
  refine rj_run hw rfl hn (fun a w hf hs => ?_) h
  obtain ⟨w', h1, h2⟩ := hr w hs
  refine ⟨w', ?_, h2⟩
  have e : (Array.mk xs).map a.eval = ⟨vs⟩ := by rw [← hf.evs hv]; simp
  simp [execOp, resolve, Act.eval, Deferred.ofValue, invoke, e, h1]
end V
end Go.Proofs.Ytcgjlhhfldkdaaa
