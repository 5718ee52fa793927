/- Small things: calls that hand back a plain value, tails. -/
import Derived.Test.YtcgjlhhfldkdaaaV14
import Derived.Test.YtcgjlhhfldkdaaaV12
import Derived.Laws.StructEq
set_option linter.unusedSimpArgs false
set_option linter.unusedVariables false
namespace Go.Proofs.Ytcgjlhhfldkdaaa
open Go.RowKit
namespace V
theorem Sat.shrink {σ : World} {R R' : Hp} {L : List Asn} {w : World} (hR : R.le R') (s : Sat σ R' L w) : Sat σ R L w := by
  obtain ⟨g, a, b, c⟩ := s.own
  refine ⟨s.os, s.tape, s.output, fun b o h => s.ro b o (hR b o h), g, a, fun x => ?_, c⟩
  rcases b x with h | h
  · exact .inl h
  · refine .inr ?_
    cases hx : R x with
    | none => rfl
    | some o => rw [hR x o hx] at h; cases h
/-- a call that hands back a plain value: what it made is forgotten -/
theorem Tri.q2 {P : Program} {f : FuncId} {args : List Value} {R : Hp} {L : List Asn} {v : Value} (h : Tri P f args R L (fun u _ L' => u = v ∧ L' = L)) : QTri P f args R L v :=
  fun σ F w hs => (h σ F w hs).mono fun e w' ⟨R', L', hR, hw, hp⟩ => by
    cases e with
    | returned u => obtain ⟨rfl, rfl⟩ := hp; exact ⟨rfl, hw.shrink hR⟩
    | panicked ch => exact hp.elim
    | outgrown => exact hp.elim
theorem two {cs : List Value} (h : cs.length = 2) : ∃ a b, cs = [a, b] := by
  match cs, h with
  | [a, b], _ => exact ⟨a, b, rfl⟩
theorem Sub.tailApp : ∀ (M F : List Asn), Sub (M ++ F) F
  | [], F => .refl F
  | A :: M, F => .drop (Sub.tailApp M F)
theorem zA (M F : List Asn) : Sub (M ++ F) F := Sub.tailApp M F
section
variable {c : Cx} {ops : Array Oper} {Q : Exit → Act → World → Prop} {rest : List Oper} {E : Env} {R : Hp} {L : List Asn} {d : Option Tmp} {ty : TypeId} {p : String} {af : Array Edge} {g : Option (Nat × Bool)}
/-- a whole thing, stored and loaded -/
theorem rj_stores_all {x y : Operand} {t et : TypeId} {b n : Nat} {l vs : List Value} {M : List Asn} (hT : Many c.P t n) (hn : vs.length = n)
    (hw : Wn c ops E ⟨none, .store t x y, ty, p, af, g⟩ true) (e1 : ev E x = some (.pointer (some ⟨b, 0, none⟩))) (e2 : ev E y = some (.agg ⟨vs⟩)) (hv : ∀ v ∈ vs, v.oneCell' = true)
    (f : Find (blk b l et) L M) (hl : l.length = n) (h : RJ c ops Q rest E R (blk b vs et :: M)) : RJ c ops Q (⟨none, .store t x y, ty, p, af, g⟩ :: rest) E R L :=
  rj_stores hT hn hw e1 e2 hv f (by omega) (by simp; omega) h
theorem y_loads_all {x : Operand} {t et : TypeId} {b n : Nat} {vs : List Value} {M : List Asn} (hT : Many c.P t n) (hn : vs.length = n) (e : ev E x = some (.pointer (some ⟨b, 0, none⟩)))
    (f : Find (blk b vs et) L M) : Yld c E R L ⟨d, .load t x, ty, p, af, g⟩ (.agg ⟨vs⟩) :=
  y_loads_blk hT e f (by rw [List.drop_zero, List.take_of_length_le (by omega)]) hn
end
end V
end Go.Proofs.Ytcgjlhhfldkdaaa
