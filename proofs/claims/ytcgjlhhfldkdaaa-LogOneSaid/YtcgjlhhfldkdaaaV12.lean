/- Rules for what package strings' Builder does: its own address, unsafe pointers, bytes as a text in place. -/
import Derived.Test.YtcgjlhhfldkdaaaV11
import Derived.Lib.Builder
import Derived.Lib.UnsafeStr
import Derived.Laws.Cover3
set_option linter.unusedSimpArgs false
set_option linter.unusedVariables false
namespace Go.Proofs.Ytcgjlhhfldkdaaa
open Go.RowKit
namespace V
section
variable {c : Cx} {ops : Array Oper} {Q : Exit → Act → World → Prop} {E : Env} {R : Hp} {L M : List Asn} {rest : List Oper} {d : Option Tmp} {ty : TypeId} {p : String} {af : Array Edge} {g : Option (Nat × Bool)}
theorem y_pneq_same {x y : Operand} {t t' e : TypeId} {a : Addr} (hT : c.P.underlying t = some (.pointer e)) (hj : (c.P.info? e).isSome = true) (e1 : ev E x = some (.pointer (some a))) (e2 : ev E y = some (.pointer (some a))) :
    Yld c E R L ⟨d, .binOp .neq t x y t', ty, p, af, g⟩ (.bool false) :=
  fun _ w hf _ => by
    obtain ⟨j, hj⟩ := Option.isSome_iff_exists.1 hj
    simp [execOp, hf.ev e1, hf.ev e2, eqGuard, Lib.run_neq_ptr_same w a hT hj, Oper.quietUpon]
theorem y_sleql {x y : Operand} {t t' e : TypeId} {q : Option Addr} {n k : Nat} (hT : c.P.underlying t = some (.slice e)) (e1 : ev E x = some (.slice q n k)) (e2 : ev E y = some (.slice none 0 0)) :
    Yld c E R L ⟨d, .binOp .eql t x y t', ty, p, af, g⟩ (.bool q.isNone) :=
  fun _ w hf _ => by
    have r := run_equal_slice_nil (P := c.P) w t e q n k hT
    simp [execOp, hf.ev e1, hf.ev e2, eqGuard, binOp, r, Oper.quietUpon]
theorem y_slneq {x y : Operand} {t t' e : TypeId} {q : Option Addr} {n k : Nat} (hT : c.P.underlying t = some (.slice e)) (e1 : ev E x = some (.slice q n k)) (e2 : ev E y = some (.slice none 0 0)) :
    Yld c E R L ⟨d, .binOp .neq t x y t', ty, p, af, g⟩ (.bool (!q.isNone)) :=
  fun _ w hf _ => by
    have r := run_equal_slice_nil (P := c.P) w t e q n k hT
    simp [execOp, hf.ev e1, hf.ev e2, eqGuard, binOp, r, Oper.quietUpon]
theorem blk_shape {σ : World} {w : World} {b : Nat} {l : List Value} {e : TypeId} (f : Find (blk b l e) L M) (hs : Sat σ R L w) : w.shape? b = some (e, l.length) := by
  have := (hs.find f).blk_heap
  simp [World.shape?, this]
theorem y_to_unsafe {x : Operand} {s t pt e : TypeId} {b off : Nat} {l : List Value} (hS : c.P.underlying s = some (.pointer pt)) (hT : c.P.underlying t = some .unsafePointer) (hz : (c.P.info? pt).map (fun i => decide (i.size = 0)) = some false)
    (e1 : ev E x = some (.pointer (some ⟨b, off, none⟩))) (f : Find (blk b l e) L M) (ho : off < l.length) : Yld c E R L ⟨d, .convert s t x, ty, p, af, g⟩ (.pointer (some ⟨b, off, none⟩)) :=
  fun _ w hf hs => by
    obtain ⟨j, hj, hz0⟩ := Option.map_eq_some_iff.1 hz
    have r := Lib.run_to_unsafe (P := c.P) w ⟨b, off, none⟩ hS hT hj (by simpa using hz0) (blk_shape f hs) ho
    simp [execOp, hf.ev e1, r, Oper.quietUpon]
theorem y_from_unsafe {x : Operand} {s t u e : TypeId} {b off n : Nat} {l : List Value} (hS : c.P.underlying s = some .unsafePointer) (hT : c.P.underlying t = some (.pointer u)) (hj : (c.P.info? u).isSome = true)
    (e1 : ev E x = some (.pointer (some ⟨b, off, none⟩))) (f : Find (blk b l e) L M) (hn : l.length = n) (hl : liesAt c.P c.P.depth e (n / c.P.cellsOf e) off u 1 = true) : Yld c E R L ⟨d, .convert s t x, ty, p, af, g⟩ (.pointer (some ⟨b, off, none⟩)) :=
  fun _ w hf hs => by
    subst hn
    obtain ⟨j, hj⟩ := Option.isSome_iff_exists.1 hj
    have r := Lib.run_from_unsafe (P := c.P) w ⟨b, off, none⟩ hS hT hj (blk_shape f hs) hl
    simp [execOp, hf.ev e1, r, Oper.quietUpon]
theorem y_noEscape {x : Operand} {f : FuncId} {ts : Array TypeId} {fn : Func} {v : Value} (hf : c.P.funcs[f]? = some fn) (h1 : (fn.name == "runtime.NumGoroutine") = false) (h2 : fn.body.isNone = true) (h3 : Extern.findNext fn = none) (h4 : Extern.find fn = some Extern.AbiNoEscape.same)
    (e1 : ev E x = some v) : Yld c E R L ⟨d, .call { callee := .value (.func f), args := ⟨[x]⟩, argTypes := ts }, ty, p, af, g⟩ v :=
  y_extern (vs := [v]) (by simp [evs, e1]) fun w _ => by
    rw [run_callFunc_extern hf h1 h2 h3 h4]
    rfl
theorem y_ssd {x : Operand} {ts : Array TypeId} {a : Addr} {n k : Nat} (e1 : ev E x = some (.slice (some a) n k)) (hk : k ≠ 0) : Yld c E R L ⟨d, .call { callee := .builtin .unsafeSliceData, args := #[x], argTypes := ts }, ty, p, af, g⟩ (.pointer (some a)) :=
  fun _ w hf _ => by
    have r := Lib.run_unsafeSliceData_row (P := c.P) w ts ty a n k hk
    simp [execOp, resolve, invoke, builtin, hf.ev e1, r, Oper.quietUpon]
theorem rj_unsafeString {d : Nat} {x y : Operand} {pt it e : TypeId} {b n cap : Nat} {bs : List UInt8} (hw : Wn c ops E ⟨some d, .call { callee := .builtin .unsafeString, args := #[x, y], argTypes := #[pt, it] }, ty, p, af, g⟩ true) (hn : Nat.blt d c.n = true)
    (hP : c.P.underlying pt = some (.pointer e)) (hC : c.P.cellsOf e = 1) (e1 : ev E x = some (.pointer (some ⟨b, 0, none⟩))) (e2 : ev E y = some (.int .i64 (n : Int))) (f : Find (slc e 1 (.slice (some ⟨b, 0, none⟩) n cap) n (bytesV bs)) L M) (h0 : 0 < n) (hm : n ≤ 9223372036854775807)
    (h : RJ c ops Q rest ((d, .string (str bs)) :: E) R M) : RJ c ops Q (⟨some d, .call { callee := .builtin .unsafeString, args := #[x, y], argTypes := #[pt, it] }, ty, p, af, g⟩ :: rest) E R L := by
  refine rj_run (v := .string (str bs)) (L' := M) hw rfl hn (fun a w hf hs => ?_) h
  obtain ⟨hl, hc⟩ := (hs.find f).slc_cases
  rw [bytesV_length] at hl
  rcases hc with ⟨h1, _, _⟩ | ⟨g', cap', fz, pre, post, h1, h2, h3, h4, h5, hs2⟩
  · cases h1
  · simp only [Value.slice.injEq, Option.some.injEq, Addr.mk.injEq, true_and] at h1
    obtain ⟨⟨rfl, hp0, -⟩, rfl⟩ := h1
    have hpre : pre = [] := by cases pre with | nil => rfl | cons _ _ => simp at hp0
    subst hpre
    have hg := heap_of_one hs2
    have hbn : bs.length = n := by omega
    have hsh : w.shape? b = some (e, ([] ++ (bytesV bs ++ post)).length) := by simp [World.shape?, hg]
    have r := Lib.run_unsafeString_row (P := c.P) w pt it ty e hP hC b _ hsh bs (by rintro rfl; simp at hbn; omega) (by simp [bytesV_length]) (by omega) (fun j u hj => by
      have hx : (bytesV bs)[j]? = some (.int .u8 (u.toNat : Int)) := by simp [bytesV, hj]
      have := row_cell (pre := []) hg hx
      rw [add_mk]; simpa using this)
    rw [hbn] at r
    refine ⟨w.freeze ⟨b, 0, none⟩ n, ?_, ?_⟩
    · simp [execOp, resolve, invoke, builtin, hf.ev e1, hf.ev e2, r]
    · obtain ⟨lo, hi⟩ := fz
      have hput : Sat c.σ R ((fun h => h b = some (.cells ⟨[] ++ (bytesV bs ++ post)⟩ e (if lo == hi then (0, 0 + n) else (min lo 0, max hi (0 + n))))) :: M) (w.freeze ⟨b, 0, none⟩ n) := by
        refine Sat.put hs2 ?_ ?_ ?_ (fun k hk _ => ?_) ?_
        · unfold World.freeze; split <;> rfl
        · unfold World.freeze; split <;> rfl
        · unfold World.freeze; split <;> rfl
        · unfold World.freeze; split
          · rfl
          · simp only [Array.getElem?_modify]; rw [if_neg (Ne.symm hk)]
        · unfold World.freeze; rw [if_neg (by omega)]
          simp only [Array.getElem?_modify, hg]
          simp
      exact hput.sub (.drop (.refl _))
end
end V
end Go.Proofs.Ytcgjlhhfldkdaaa
