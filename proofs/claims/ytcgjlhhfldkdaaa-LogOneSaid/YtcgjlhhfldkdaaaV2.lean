/- The rules for single operations: those that hand back a value and leave memory alone. -/
import Derived.Test.YtcgjlhhfldkdaaaV1
import Derived.Laws.DeepStrings4
import Derived.Lib.Strings
set_option linter.unusedSimpArgs false
set_option linter.unusedVariables false
namespace Go.Proofs.Ytcgjlhhfldkdaaa
open Go.RowKit
namespace V
section
variable {c : Cx} {E : Env} {R : Hp} {L : List Asn} {d : Option Tmp} {ty : TypeId} {p : String} {af : Array Edge} {g : Option (Nat × Bool)}

theorem y_move {x : Operand} {v : Value} (e : ev E x = some v) : Yld c E R L ⟨d, .move x, ty, p, af, g⟩ v :=
  fun a w hf _ => by simp only [execOp, Sem.run_pure, Oper.quietUpon]; exact ⟨trivial, hf.ev e⟩
theorem y_assign {x : Operand} {v : Value} (e : ev E x = some v) : Yld c E R L ⟨d, .assign x, ty, p, af, g⟩ v :=
  fun a w hf _ => by simp only [execOp, Sem.run_pure, Oper.quietUpon]; exact ⟨trivial, hf.ev e⟩
theorem y_pick {x y z : Operand} {b : Bool} {v u : Value} (e : ev E x = some (.bool b)) (e1 : ev E y = some v) (e2 : ev E z = some u) :
    Yld c E R L ⟨d, .pick x y z, ty, p, af, g⟩ (if b then v else u) :=
  fun a w hf _ => by simp [execOp, hf.ev e, hf.ev e1, hf.ev e2, asBool, Oper.quietUpon]
theorem y_pick_t {x y z : Operand} {v : Value} (e : ev E x = some (.bool true)) (e1 : ev E y = some v) :
    Yld c E R L ⟨d, .pick x y z, ty, p, af, g⟩ v :=
  fun a w hf _ => by simp [execOp, hf.ev e, hf.ev e1, asBool, Oper.quietUpon]
theorem y_pick_f {x y z : Operand} {u : Value} (e : ev E x = some (.bool false)) (e2 : ev E z = some u) :
    Yld c E R L ⟨d, .pick x y z, ty, p, af, g⟩ u :=
  fun a w hf _ => by simp [execOp, hf.ev e, hf.ev e2, asBool, Oper.quietUpon]
theorem y_nilCheck {x : Operand} {a : Addr} (e : ev E x = some (.pointer (some a))) : Yld c E R L ⟨d, .nilCheck x, ty, p, af, g⟩ (.pointer (some a)) :=
  fun _ w hf _ => by simp only [execOp, hf.ev e, Sem.run_pure, Oper.quietUpon]; exact ⟨trivial, trivial⟩
theorem y_extract {x : Operand} {vs : Array Value} {i : Nat} {v : Value} (e : ev E x = some (.tuple vs)) (h : vs[i]? = some v) : Yld c E R L ⟨d, .extract x i, ty, p, af, g⟩ v :=
  fun _ w hf _ => by simp [execOp, hf.ev e, Instr.extract, h, Oper.quietUpon]
/-- reckoning -/
theorem y_add {x y : Operand} {t t' : TypeId} {k : IntKind} {m n : Int} (e1 : ev E x = some (.int k m)) (e2 : ev E y = some (.int k n)) :
    Yld c E R L ⟨d, .binOp .add t x y t', ty, p, af, g⟩ (.int k (k.wrap (m + n))) :=
  fun _ w hf _ => by simp [execOp, hf.ev e1, hf.ev e2, eqGuard, binOp, Op.intArith, Oper.quietUpon]
theorem y_sub {x y : Operand} {t t' : TypeId} {k : IntKind} {m n : Int} (e1 : ev E x = some (.int k m)) (e2 : ev E y = some (.int k n)) :
    Yld c E R L ⟨d, .binOp .sub t x y t', ty, p, af, g⟩ (.int k (k.wrap (m - n))) :=
  fun _ w hf _ => by simp [execOp, hf.ev e1, hf.ev e2, eqGuard, binOp, Op.intArith, Oper.quietUpon]
theorem y_mul {x y : Operand} {t t' : TypeId} {k : IntKind} {m n : Int} (e1 : ev E x = some (.int k m)) (e2 : ev E y = some (.int k n)) :
    Yld c E R L ⟨d, .binOp .mul t x y t', ty, p, af, g⟩ (.int k (k.wrap (m * n))) :=
  fun _ w hf _ => by simp [execOp, hf.ev e1, hf.ev e2, eqGuard, binOp, Op.intArith, Oper.quietUpon]
theorem Yld.to {o : Oper} {v u : Value} (y : Yld c E R L o v) (h : v = u) : Yld c E R L o u := h ▸ y
theorem wrap_in {k : IntKind} {n : Int} (h : k.min ≤ n ∧ n ≤ k.max) : k.wrap n = n := by
  cases k <;> simp [IntKind.min, IntKind.max, IntKind.signed, IntKind.bits] at h <;> simp [IntKind.wrap, IntKind.signed, IntKind.bits] <;> omega
theorem wrap_i64_in {n : Int} (h : -9223372036854775808 ≤ n ∧ n ≤ 9223372036854775807) : IntKind.i64.wrap n = n := wrap_in (by simpa [IntKind.min, IntKind.max, IntKind.signed, IntKind.bits] using h)
theorem wrap_u64_in {n : Int} (h : 0 ≤ n ∧ n < 18446744073709551616) : IntKind.u64.wrap n = n := wrap_in (by simp [IntKind.min, IntKind.max, IntKind.signed, IntKind.bits]; omega)
theorem wrap_u8_in {n : Int} (h : 0 ≤ n ∧ n < 256) : IntKind.u8.wrap n = n := wrap_in (by simp [IntKind.min, IntKind.max, IntKind.signed, IntKind.bits]; omega)
theorem y_add64 {x y : Operand} {t t' : TypeId} {m n : Int} (e1 : ev E x = some (.int .i64 m)) (e2 : ev E y = some (.int .i64 n)) (h : -9223372036854775808 ≤ m + n ∧ m + n ≤ 9223372036854775807) :
    Yld c E R L ⟨d, .binOp .add t x y t', ty, p, af, g⟩ (.int .i64 (m + n)) := (y_add e1 e2).to (by rw [wrap_i64_in h])
theorem y_sub64 {x y : Operand} {t t' : TypeId} {m n : Int} (e1 : ev E x = some (.int .i64 m)) (e2 : ev E y = some (.int .i64 n)) (h : -9223372036854775808 ≤ m - n ∧ m - n ≤ 9223372036854775807) :
    Yld c E R L ⟨d, .binOp .sub t x y t', ty, p, af, g⟩ (.int .i64 (m - n)) := (y_sub e1 e2).to (by rw [wrap_i64_in h])
theorem y_addu {x y : Operand} {t t' : TypeId} {m n : Int} (e1 : ev E x = some (.int .u64 m)) (e2 : ev E y = some (.int .u64 n)) (h : 0 ≤ m + n ∧ m + n < 18446744073709551616) :
    Yld c E R L ⟨d, .binOp .add t x y t', ty, p, af, g⟩ (.int .u64 (m + n)) := (y_add e1 e2).to (by rw [wrap_u64_in h])
theorem y_subu {x y : Operand} {t t' : TypeId} {m n : Int} (e1 : ev E x = some (.int .u64 m)) (e2 : ev E y = some (.int .u64 n)) (h : 0 ≤ m - n ∧ m - n < 18446744073709551616) :
    Yld c E R L ⟨d, .binOp .sub t x y t', ty, p, af, g⟩ (.int .u64 (m - n)) := (y_sub e1 e2).to (by rw [wrap_u64_in h])
theorem y_mul64 {x y : Operand} {t t' : TypeId} {m n : Int} (e1 : ev E x = some (.int .i64 m)) (e2 : ev E y = some (.int .i64 n)) (h : -9223372036854775808 ≤ m * n ∧ m * n ≤ 9223372036854775807) :
    Yld c E R L ⟨d, .binOp .mul t x y t', ty, p, af, g⟩ (.int .i64 (m * n)) := (y_mul e1 e2).to (by rw [wrap_i64_in h])
theorem y_mulu {x y : Operand} {t t' : TypeId} {m n : Int} (e1 : ev E x = some (.int .u64 m)) (e2 : ev E y = some (.int .u64 n)) (h : 0 ≤ m * n ∧ m * n < 18446744073709551616) :
    Yld c E R L ⟨d, .binOp .mul t x y t', ty, p, af, g⟩ (.int .u64 (m * n)) := (y_mul e1 e2).to (by rw [wrap_u64_in h])
/-- comparing numbers -/
theorem y_lss {x y : Operand} {t t' : TypeId} {k : IntKind} {m n : Int} (e1 : ev E x = some (.int k m)) (e2 : ev E y = some (.int k n)) :
    Yld c E R L ⟨d, .binOp .lss t x y t', ty, p, af, g⟩ (.bool (decide (m < n))) :=
  fun _ w hf _ => by simp [execOp, hf.ev e1, hf.ev e2, eqGuard, binOp, Op.intCmp, Oper.quietUpon]
theorem y_leq {x y : Operand} {t t' : TypeId} {k : IntKind} {m n : Int} (e1 : ev E x = some (.int k m)) (e2 : ev E y = some (.int k n)) :
    Yld c E R L ⟨d, .binOp .leq t x y t', ty, p, af, g⟩ (.bool (decide (m ≤ n))) :=
  fun _ w hf _ => by simp [execOp, hf.ev e1, hf.ev e2, eqGuard, binOp, Op.intCmp, Oper.quietUpon]
theorem y_gtr {x y : Operand} {t t' : TypeId} {k : IntKind} {m n : Int} (e1 : ev E x = some (.int k m)) (e2 : ev E y = some (.int k n)) :
    Yld c E R L ⟨d, .binOp .gtr t x y t', ty, p, af, g⟩ (.bool (decide (n < m))) :=
  fun _ w hf _ => by simp [execOp, hf.ev e1, hf.ev e2, eqGuard, binOp, Op.intCmp, Oper.quietUpon]
theorem y_geq {x y : Operand} {t t' : TypeId} {k : IntKind} {m n : Int} (e1 : ev E x = some (.int k m)) (e2 : ev E y = some (.int k n)) :
    Yld c E R L ⟨d, .binOp .geq t x y t', ty, p, af, g⟩ (.bool (decide (n ≤ m))) :=
  fun _ w hf _ => by simp [execOp, hf.ev e1, hf.ev e2, eqGuard, binOp, Op.intCmp, Oper.quietUpon]
theorem y_eql {x y : Operand} {t t' : TypeId} {k : IntKind} {m n : Int} (e1 : ev E x = some (.int k m)) (e2 : ev E y = some (.int k n)) :
    Yld c E R L ⟨d, .binOp .eql t x y t', ty, p, af, g⟩ (.bool (decide (m = n))) :=
  fun _ w hf _ => by simp [execOp, hf.ev e1, hf.ev e2, eqGuard, binOp, Op.intCmp, Oper.quietUpon]; rfl
theorem y_neq {x y : Operand} {t t' : TypeId} {k : IntKind} {m n : Int} (e1 : ev E x = some (.int k m)) (e2 : ev E y = some (.int k n)) :
    Yld c E R L ⟨d, .binOp .neq t x y t', ty, p, af, g⟩ (.bool (!decide (m = n))) :=
  fun _ w hf _ => by simp [execOp, hf.ev e1, hf.ev e2, eqGuard, binOp, Op.intCmp, Oper.quietUpon]; rfl
theorem y_not {x : Operand} {t : TypeId} {b : Bool} (e : ev E x = some (.bool b)) : Yld c E R L ⟨d, .unOp .not t x, ty, p, af, g⟩ (.bool !b) :=
  fun _ w hf _ => by simp [execOp, hf.ev e, Op.unary, Oper.quietUpon]
/-- texts -/
@[reducible] def str (l : List UInt8) : ByteArray := ⟨l.toArray⟩
theorem str_toList (l : List UInt8) : (str l).toList = l := by
  simp
theorem beq_dec {α : Type} [DecidableEq α] (m n : List α) : (m == n) = decide (m = n) := by by_cases h : m = n <;> simp [h]
theorem str_size (l : List UInt8) : (str l).size = l.length := by simp [ByteArray.size]
theorem str_of (s : ByteArray) : s = str s.data.toList := by cases s; simp
theorem y_seql {x y : Operand} {t t' : TypeId} {m n : List UInt8} (e1 : ev E x = some (.string (str m))) (e2 : ev E y = some (.string (str n))) :
    Yld c E R L ⟨d, .binOp .eql t x y t', ty, p, af, g⟩ (.bool (decide (m = n))) :=
  fun _ w hf _ => by simp [execOp, hf.ev e1, hf.ev e2, eqGuard, binOp, Op.stringOp, Oper.quietUpon]; exact beq_dec m n
theorem y_sneq {x y : Operand} {t t' : TypeId} {m n : List UInt8} (e1 : ev E x = some (.string (str m))) (e2 : ev E y = some (.string (str n))) :
    Yld c E R L ⟨d, .binOp .neq t x y t', ty, p, af, g⟩ (.bool (!decide (m = n))) :=
  fun _ w hf _ => by simp [execOp, hf.ev e1, hf.ev e2, eqGuard, binOp, Op.stringOp, Oper.quietUpon]; exact beq_dec m n
theorem y_sadd {x y : Operand} {t t' : TypeId} {m n : List UInt8} (e1 : ev E x = some (.string (str m))) (e2 : ev E y = some (.string (str n))) (h : m.length + n.length ≤ 9223372036854775807) :
    Yld c E R L ⟨d, .binOp .add t x y t', ty, p, af, g⟩ (.string (str (m ++ n))) :=
  fun _ w hf _ => by
    have hk : ¬ IntKind.i64.max < (((str m).size + (str n).size : Nat) : Int) := by simp only [str_size]; simp [IntKind.max, IntKind.signed, IntKind.bits]; omega
    have e : str m ++ str n = str (m ++ n) := by apply ByteArray.ext; simp
    have r : (Op.stringOp .add (str m) (str n)).run c.P w = .ok (.string (str m ++ str n)) w := by simp only [Op.stringOp, if_neg hk, Sem.run_pure]
    simp [execOp, hf.ev e1, hf.ev e2, eqGuard, binOp, r, Oper.quietUpon, e]
theorem y_slen {x : Operand} {t : TypeId} {m : List UInt8} (hT : c.P.underlying t = some .string) (e1 : ev E x = some (.string (str m))) :
    Yld c E R L ⟨d, .call { callee := .builtin .len, args := #[x], argTypes := #[t] }, ty, p, af, g⟩ (.int .i64 m.length) :=
  fun _ w hf _ => by
    have r := run_len_string (P := c.P) w t ty (str m) hT
    rw [str_size] at r
    simp [execOp, resolve, invoke, builtin, hf.ev e1, r, Oper.quietUpon, goInt]
theorem extract_str (m : List UInt8) (a b : Nat) : (str m).extract a b = str ((m.drop a).take (b - a)) := by
  rw [Lib.extract_eq]
theorem y_slice_s {x lo hi : Operand} {t : TypeId} {m : List UInt8} {i j : Int} (hT : c.P.underlying t = some .string) (e1 : ev E x = some (.string (str m)))
    (e2 : ev E lo = some (.int .i64 i)) (e3 : ev E hi = some (.int .i64 j)) (h : 0 ≤ i ∧ i ≤ j ∧ j ≤ m.length) :
    Yld c E R L ⟨d, .slice t x (some lo) (some hi) none, ty, p, af, g⟩ (.string (str ((m.drop i.toNat).take (j.toNat - i.toNat)))) :=
  fun _ w hf _ => by
    obtain ⟨h1, h2, h3⟩ := h
    have r := run_slice_string_if (P := c.P) w t (str m) .i64 .i64 i j hT
    rw [if_pos ⟨by omega, by rw [str_size]; exact h3⟩, if_pos ⟨h1, h2⟩, extract_str] at r
    simp [execOp, Instr.sliceAt, run_underlying hT, hf.ev e1, hf.ev e2, hf.ev e3, r, Oper.quietUpon]
theorem y_slice_s_hi {x hi : Operand} {t : TypeId} {m : List UInt8} {j : Int} (hT : c.P.underlying t = some .string) (e1 : ev E x = some (.string (str m)))
    (e3 : ev E hi = some (.int .i64 j)) (h : 0 ≤ j ∧ j ≤ m.length) :
    Yld c E R L ⟨d, .slice t x none (some hi) none, ty, p, af, g⟩ (.string (str (m.take j.toNat))) :=
  fun _ w hf _ => by
    have r := run_slice_string_h (P := c.P) w t (str m) hT .i64 j h.1 (by rw [str_size]; exact h.2)
    rw [extract_str] at r
    simp only [Nat.sub_zero, List.drop_zero] at r
    simp [execOp, Instr.sliceAt, run_underlying hT, hf.ev e1, hf.ev e3, r, Oper.quietUpon]
theorem y_slice_s_lo {x lo : Operand} {t : TypeId} {m : List UInt8} {i : Int} (hT : c.P.underlying t = some .string) (e1 : ev E x = some (.string (str m)))
    (e2 : ev E lo = some (.int .i64 i)) (h : 0 ≤ i ∧ i ≤ m.length) :
    Yld c E R L ⟨d, .slice t x (some lo) none none, ty, p, af, g⟩ (.string (str (m.drop i.toNat))) :=
  fun _ w hf _ => by
    have r := run_slice_string_l (P := c.P) w t (str m) hT .i64 i h.1 (by rw [str_size]; exact h.2)
    rw [extract_str, str_size, List.take_of_length_le (by simp)] at r
    simp [execOp, Instr.sliceAt, run_underlying hT, hf.ev e1, hf.ev e2, r, Oper.quietUpon]
def byteAt (m : List UInt8) (i : Int) : Int := ((m.getD i.toNat 0).toNat : Int)
theorem byteAt_bd (m : List UInt8) (i : Int) : 0 ≤ byteAt m i ∧ byteAt m i < 256 := by unfold byteAt; have := (m.getD i.toNat 0).toNat_lt; omega
theorem y_index_s {x y : Operand} {t : TypeId} {k : IntKind} {m : List UInt8} {i : Int} (hT : c.P.underlying t = some .string) (e1 : ev E x = some (.string (str m)))
    (e2 : ev E y = some (.int k i)) (h : 0 ≤ i ∧ i < m.length) :
    Yld c E R L ⟨d, .index t x y, ty, p, af, g⟩ (.int .u8 (byteAt m i)) :=
  fun _ w hf _ => by
    have r := run_index_string (P := c.P) w t (str m) k i hT
    rw [dif_pos ⟨h.1, by rw [str_size]; exact h.2⟩] at r
    have e : (str m)[i.toNat]'(by rw [str_size]; omega) = m.getD i.toNat 0 := by
      rw [List.getD_eq_getElem?_getD, List.getElem?_eq_getElem (by omega)]; rfl
    rw [e] at r
    simp [execOp, hf.ev e1, hf.ev e2, r, Oper.quietUpon, byteAt]
/-- numbers into numbers -/
theorem y_conv {x : Operand} {s t : TypeId} {k k' : IntKind} {n : Int} {D : TypeDesc} (hS : c.P.underlying s = some D) (hT : c.P.underlying t = some (.int k')) (e : ev E x = some (.int k n)) :
    Yld c E R L ⟨d, .convert s t x, ty, p, af, g⟩ (.int k' (k'.wrap n)) :=
  fun _ w hf _ => by
    have r : (convert s t (.int k n)).run c.P w = .ok (.int k' (k'.wrap n)) w := by
      cases D <;> simp [convert, run_underlying hS, run_underlying hT, Conv.intToInt]
    simp [execOp, hf.ev e, r, Oper.quietUpon]
theorem y_conv_in {x : Operand} {s t : TypeId} {k k' : IntKind} {n : Int} {D : TypeDesc} (hS : c.P.underlying s = some D) (hT : c.P.underlying t = some (.int k')) (e : ev E x = some (.int k n)) (h : k'.min ≤ n ∧ n ≤ k'.max) :
    Yld c E R L ⟨d, .convert s t x, ty, p, af, g⟩ (.int k' n) := (y_conv hS hT e).to (by rw [wrap_in h])
end
end V
end Go.Proofs.Ytcgjlhhfldkdaaa
