/- Messages, plain, and how they stand in memory. -/
import Derived.Test.YtcgjlhhfldkdaaaV17
import Derived.Test.YtcgjlhhfldkdaaaV12
import Derived.Laws.StructEq
import Derived.Test.YtcgjlhhfldkdaaaProg
import Derived.KernelRfl
set_option linter.unusedSimpArgs false
set_option linter.unusedVariables false
set_option maxRecDepth 100000
namespace Go.Proofs.Ytcgjlhhfldkdaaa
open Go.RowKit
namespace V
set_option maxHeartbeats 4000000
abbrev Ent := Int × List UInt8
structure Msg where
  kind : Int
  frm : Int
  to : Int
  term : Int
  index : Int
  logTerm : Int
  commit : Int
  ok : Bool
  es : List Ent
  state : List UInt8
deriving DecidableEq
def Msg.zero : Msg := ⟨0, 0, 0, 0, 0, 0, 0, false, [], []⟩
def entC (e : Ent) : List Value := [.int .u64 e.1, .string (str e.2)]
def entE : Elt Ent where
  P := fun _ e cs => cs = entC e
  sz := 2
  mono := fun _ h => h
  len := fun h => by subst h; rfl
  one := fun h u hu => by subst h; simp [entC] at hu; rcases hu with rfl | rfl <;> rfl
def msgC (m : Msg) (ve : Value) : List Value := [.int .i64 m.kind, .int .i64 m.frm, .int .i64 m.to, .int .u64 m.term, .int .u64 m.index, .int .u64 m.logTerm, .int .u64 m.commit, .bool m.ok, ve, .string (str m.state)]
def msgE : Elt Msg where
  P := fun R m cs => ∃ ve, cs = msgC m ve ∧ FrX entE R m.es ve
  sz := 10
  mono := fun hR ⟨ve, h, k⟩ => ⟨ve, h, k.mono hR⟩
  len := fun ⟨ve, h, k⟩ => by subst h; rfl
  one := fun ⟨ve, h, k⟩ u hu => by subst h; simp only [msgC, List.mem_cons, List.not_mem_nil, or_false] at hu; rcases hu with rfl | rfl | rfl | rfl | rfl | rfl | rfl | rfl | rfl | rfl <;> first | rfl | exact k.one
theorem msgE.zero (R : Hp) : msgE.P R Msg.zero (msgC Msg.zero (.slice none 0 0)) := ⟨_, rfl, FrX.nil⟩
/-- how a message came in -/
abbrev MsgY := Int × Int × Int × Int × Int × Int × Int × Bool × List (Int × List UInt8) × List UInt8
def entR : Rdr (Int × List UInt8) := pairR 1 (intR .u64) strR
def msgR : Rdr MsgY := pairR 1 (intR .i64) (pairR 1 (intR .i64) (pairR 1 (intR .i64) (pairR 1 (intR .u64) (pairR 1 (intR .u64) (pairR 1 (intR .u64) (pairR 1 (intR .u64) (pairR 1 boolR (pairR 1 (slcR 2 entR) strR))))))))
def msgOf (y : MsgY) : Msg := ⟨y.1, y.2.1, y.2.2.1, y.2.2.2.1, y.2.2.2.2.1, y.2.2.2.2.2.1, y.2.2.2.2.2.2.1, y.2.2.2.2.2.2.2.1, y.2.2.2.2.2.2.2.2.1, y.2.2.2.2.2.2.2.2.2⟩
def i64B (n : Int) : Prop := -9223372036854775808 ≤ n ∧ n ≤ 9223372036854775807
def u64B (n : Int) : Prop := 0 ≤ n ∧ n < 18446744073709551616
/-- within its kinds' bounds -/
structure Msg.Bd (m : Msg) : Prop where
  kind : i64B m.kind
  frm : i64B m.frm
  to : i64B m.to
  term : u64B m.term
  index : u64B m.index
  logTerm : u64B m.logTerm
  commit : u64B m.commit
  es : ∀ e ∈ m.es, u64B e.1 ∧ e.2.length ≤ maxLen
  state : m.state.length ≤ maxLen
theorem i64B_of {n : Int} (h : IntKind.i64.min ≤ n ∧ n ≤ IntKind.i64.max) : i64B n := by simpa [i64B, IntKind.min, IntKind.max, IntKind.signed, IntKind.bits] using h
theorem u64B_of {n : Int} (h : IntKind.u64.min ≤ n ∧ n ≤ IntKind.u64.max) : u64B n := by
  have : 0 ≤ n ∧ n ≤ 18446744073709551615 := by simpa [IntKind.min, IntKind.max, IntKind.signed, IntKind.bits] using h
  exact ⟨this.1, by omega⟩
theorem ten {cs : List Value} (h : cs.length = 10) : ∃ a b c d e f g i j k, cs = [a, b, c, d, e, f, g, i, j, k] := by
  match cs, h with
  | [a, b, c, d, e, f, g, i, j, k], _ => exact ⟨a, b, c, d, e, f, g, i, j, k, rfl⟩
theorem entR_E {R : Hp} {cs : List Value} {y : Int × List UInt8} (hl : cs.length = 2) (h : entR R cs y) : cs = entC y := by
  obtain ⟨a, b, rfl⟩ := two hl
  obtain ⟨⟨e1, _⟩, e2, _⟩ := h
  simp at e1 e2
  simp [entC, e1, e2]
theorem entR_bd {R : Hp} {cs : List Value} {y : Int × List UInt8} (h : entR R cs y) : u64B y.1 ∧ y.2.length ≤ maxLen := by
  obtain ⟨⟨_, h1⟩, _, h2⟩ := h
  exact ⟨u64B_of h1, h2⟩
theorem slcR_all {α : Type} {n : Nat} {r : Rdr α} {R : Hp} {cs : List Value} {ys : List α} (h : slcR n r R cs ys) : ∀ y ∈ ys, ∃ c, r R c y := by
  obtain ⟨q, cap, _, _, _, h3⟩ := h
  rcases h3 with rfl | ⟨b, off, _, hz⟩
  · simp
  · intro y hy
    obtain ⟨i, hi, rfl⟩ := List.getElem_of_mem hy
    obtain ⟨c, _, _, hc⟩ := hz i hi
    exact ⟨c, hc⟩
theorem msgR_E {R : Hp} {cs : List Value} {y : MsgY} (hl : cs.length = 10) (h : msgR R cs y) : msgE.P R (msgOf y) cs ∧ (msgOf y).Bd := by
  obtain ⟨a, b, c, d, e, f, g, i, j, k, rfl⟩ := ten hl
  obtain ⟨⟨e0, b0⟩, ⟨e1, b1⟩, ⟨e2, b2⟩, ⟨e3, b3⟩, ⟨e4, b4⟩, ⟨e5, b5⟩, ⟨e6, b6⟩, e7, e8, e9, b9⟩ := h
  simp only [List.take_succ_cons, List.take_zero, List.drop_succ_cons, List.drop_zero, boolR, List.cons.injEq, and_true] at e0 e1 e2 e3 e4 e5 e6 e7 e8 e9
  refine ⟨⟨j, by simp only [msgC, msgOf, e0, e1, e2, e3, e4, e5, e6, e7, e9], ?_⟩, ⟨i64B_of b0, i64B_of b1, i64B_of b2, u64B_of b3, u64B_of b4, u64B_of b5, u64B_of b6, fun x hx => ?_, b9⟩⟩
  · have := slcR_frx (T := entE) (fun x => x) (fun c x hc h => entR_E hc h) e8
    rw [List.map_id'] at this
    exact this
  · obtain ⟨c, hc⟩ := slcR_all e8 x hx
    exact entR_bd hc
theorem msgs_in {R : Hp} {v : Value} {ys : List MsgY} (h : slcR 10 msgR R [v] ys) : FrX msgE R (ys.map msgOf) v ∧ ∀ m ∈ ys.map msgOf, m.Bd := by
  refine ⟨slcR_frx (T := msgE) msgOf (fun c x hc h => (msgR_E hc h).1) h, fun m hm => ?_⟩
  obtain ⟨y, hy, rfl⟩ := List.mem_map.1 hm
  obtain ⟨q, cap, _, _, _, h3⟩ := h
  rcases h3 with rfl | ⟨b, off, _, hz⟩
  · simp at hy
  · obtain ⟨i, hi, rfl⟩ := List.getElem_of_mem hy
    obtain ⟨c, q1, _, hc⟩ := hz i hi
    exact (msgR_E q1 hc).2
/-! ### entries compared -/
theorem ent_neq (a b : Ent) (w : World) : (binOp .neq 37 (.agg ⟨entC a⟩) (.agg ⟨entC b⟩)).run Try.prog w = .ok (.bool (!decide (a = b))) w := by
  have u1 := Try.underlying25
  have a1 := Try.isAgg25
  have u2 := Try.underlying9
  have a2 := Try.isAgg9
  have hS : Try.prog.underlying 37 = some (.struct (Try.prog.fieldsOf 37)) := by kernel_rfl
  have hp : Try.prog.stoodInHeld 37 = false := by kernel_rfl
  simp only [entC]
  rw [run_neq_struct, show (10000 : Nat) = 9999 + 1 from rfl, run_equalIn_agg w 9999 37 _ _ hS hp]
  simp only [Program.fieldsOf, Try.underlying37]
  go_simp
  obtain ⟨a1, a2⟩ := a
  obtain ⟨b1, b2⟩ := b
  by_cases h1 : a1 = b1 <;> by_cases h2 : a2 = b2 <;> simp [h1, h2, Prod.ext_iff]
theorem y_stneq {c : Cx} {E : Env} {R : Hp} {L : List Asn} {d : Option Tmp} {ty : TypeId} {p : String} {af : Array Edge} {g : Option (Nat × Bool)} {x y : Operand} {t t' : TypeId} {xs ys : List Value} {b : Bool} (hm : c.P.eqGuardType c.P.depth t = false)
    (e1 : ev E x = some (.agg ⟨xs⟩)) (e2 : ev E y = some (.agg ⟨ys⟩)) (hr : ∀ w, (binOp .neq t (.agg ⟨xs⟩) (.agg ⟨ys⟩)).run c.P w = .ok (.bool b) w) : Yld c E R L ⟨d, .binOp .neq t x y t', ty, p, af, g⟩ (.bool b) :=
  fun a w hf _ => by
    have hg := run_eqGuard_agg (P := c.P) w .neq t x y ⟨xs⟩ ⟨ys⟩ hm
    simp [execOp, hf.ev e1, hf.ev e2, hg, hr w, Oper.quietUpon]
end V
end Go.Proofs.Ytcgjlhhfldkdaaa
