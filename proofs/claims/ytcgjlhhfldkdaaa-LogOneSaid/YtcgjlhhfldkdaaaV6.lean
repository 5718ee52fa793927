/- Rules for slices: their length, an element's address, a part of them. -/
import Derived.Test.YtcgjlhhfldkdaaaV5
import Derived.Laws.IdiomStrings
set_option linter.unusedSimpArgs false
set_option linter.unusedVariables false
namespace Go.Proofs.Ytcgjlhhfldkdaaa
open Go.RowKit
namespace V
section
variable {c : Cx} {E : Env} {R : Hp} {L : List Asn} {d : Option Tmp} {ty : TypeId} {p : String} {af : Array Edge} {g : Option (Nat × Bool)}
theorem y_len_sl {x : Operand} {t e : TypeId} {q : Option Addr} {n k : Nat} (hT : c.P.underlying t = some (.slice e)) (e1 : ev E x = some (.slice q n k)) :
    Yld c E R L ⟨d, .call { callee := .builtin .len, args := #[x], argTypes := #[t] }, ty, p, af, g⟩ (.int .i64 n) :=
  fun _ w hf _ => by
    have r : (Builtin.len_ #[t] ty #[.slice q n k]).run c.P w = .ok (goInt n) w := by simp [Builtin.len_, run_underlying hT]
    simp [execOp, resolve, invoke, builtin, hf.ev e1, r, Oper.quietUpon, goInt]
theorem y_indexAddr {x y : Operand} {t e : TypeId} {b off n k sz : Nat} {ik : IntKind} {i : Int} (hT : c.P.underlying t = some (.slice e)) (hS : ∀ w, (sizeOf e).run c.P w = .ok sz w)
    (e1 : ev E x = some (.slice (some ⟨b, off, none⟩) n k)) (e2 : ev E y = some (.int ik i)) (h : 0 ≤ i ∧ i < n) :
    Yld c E R L ⟨d, .indexAddr t x y, ty, p, af, g⟩ (.pointer (some ⟨b, off + i.toNat * sz, none⟩)) :=
  fun _ w hf _ => by
    have r : (Instr.indexAt t (.slice (some ⟨b, off, none⟩) n k) (.int ik i)).run c.P w = .ok (.pointer (some ⟨b, off + i.toNat * sz, none⟩)) w := by
      simp [Instr.indexAt, asIntOf, run_underlying hT, h, hS, add_mk]
    simp [execOp, hf.ev e1, hf.ev e2, r, Oper.quietUpon]
/-- an array's variable -/
theorem y_indexAddr_arr {x y : Operand} {t e : TypeId} {b off n sz : Nat} {ik : IntKind} {i : Int} (hT : c.P.underlying t = some (.array n e)) (hS : ∀ w, (sizeOf e).run c.P w = .ok sz w)
    (e1 : ev E x = some (.pointer (some ⟨b, off, none⟩))) (e2 : ev E y = some (.int ik i)) (h : 0 ≤ i ∧ i < n) :
    Yld c E R L ⟨d, .indexAddr t x y, ty, p, af, g⟩ (.pointer (some ⟨b, off + i.toNat * sz, none⟩)) :=
  fun _ w hf _ => by
    have r : (Instr.indexAt t (.pointer (some ⟨b, off, none⟩)) (.int ik i)).run c.P w = .ok (.pointer (some ⟨b, off + i.toNat * sz, none⟩)) w := by
      simp [Instr.indexAt, asIntOf, run_underlying hT, h, hS, add_mk, Instr.sureAddr]
    simp [execOp, hf.ev e1, hf.ev e2, r, Oper.quietUpon]
/-- x[lo:hi], x[lo:], x[:hi] of a slice -/
def partAddr (a : Option Addr) (l m sz : Nat) : Option Addr := if m = l then a else a.map (·.add (l * sz))
theorem y_slice_sl {x : Operand} {lo hi : Option Operand} {t e : TypeId} {q : Option Addr} {n k sz l h : Nat} (hT : c.P.underlying t = some (.slice e)) (hS : ∀ w, (sizeOf e).run c.P w = .ok sz w)
    (e1 : ev E x = some (.slice q n k))
    (hl : match lo with | none => l = 0 | some o => ∃ ik, ev E o = some (.int ik (l : Int))) (hh : match hi with | none => h = n | some o => ∃ ik, ev E o = some (.int ik (h : Int))) (hb : l ≤ h ∧ h ≤ k) :
    Yld c E R L ⟨d, .slice t x lo hi none, ty, p, af, g⟩ (.slice (partAddr q l k sz) (h - l) (k - l)) :=
  fun a w hf _ => by
    have r : (Instr.sliceBounds true n k (lo.map a.eval) (hi.map a.eval) none).run c.P w = .ok (l, h, k) w := by
      have bnd : ∀ (ik : IntKind) (m y : Nat) (code : BoundsCode), m ≤ y → (Instr.sliceBound (.int ik (m : Int)) y code).run c.P w = .ok m w := fun ik m y code hm => by
        have h1 : (0 : Int) ≤ m ∧ (m : Int) ≤ y := ⟨by omega, by omega⟩
        simp [Instr.sliceBound, asIntOf, hm]
      unfold Instr.sliceBounds
      cases lo with
      | none =>
        simp only at hl; subst hl
        cases hi with
        | none => simp only at hh; subst hh; simp
        | some o => obtain ⟨ik, hh⟩ := hh; simp [hf.ev hh, bnd _ _ _ _ hb.2]
      | some o =>
        obtain ⟨ik, hl⟩ := hl
        cases hi with
        | none => simp only at hh; subst hh; simp [hf.ev hl, bnd _ _ _ _ hb.1]
        | some o' => obtain ⟨ik', hh⟩ := hh; simp [hf.ev hl, hf.ev hh, bnd _ _ _ _ hb.1, bnd _ _ _ _ hb.2]
    have r2 : (Instr.sliceAt t (.slice q n k) (lo.map a.eval) (hi.map a.eval) none).run c.P w = .ok (.slice (partAddr q l k sz) (h - l) (k - l)) w := by
      unfold Instr.sliceAt
      simp only [Sem.run_bind, run_underlying hT, Result.andThen_ok]
      unfold Instr.slice
      simp only [Sem.run_bind, run_underlying hT, Result.andThen_ok, r, hS, Sem.run_pure]
      rfl
    simp [execOp, hf.ev e1, r2, Oper.quietUpon]
theorem y_loads_ro {x : Operand} {t : TypeId} {b off n : Nat} {vs : List Value} (hT : Many c.P t n) (hn : vs.length = n) (e : ev E x = some (.pointer (some ⟨b, off, none⟩)))
    (h : ∀ j v, vs[j]? = some v → Hp.cell R ⟨b, off + j, none⟩ = some v) : Yld c E R L ⟨d, .load t x, ty, p, af, g⟩ (.agg ⟨vs⟩) :=
  y_loads_of hT hn e fun _ hs j v hv => hs.ro_cell (h j v hv)
theorem y_loads_blk {x : Operand} {t et : TypeId} {b off n : Nat} {l vs : List Value} {M : List Asn} (hT : Many c.P t n) (e : ev E x = some (.pointer (some ⟨b, off, none⟩)))
    (f : Find (blk b l et) L M) (hv : (l.drop off).take n = vs) (hn : vs.length = n) : Yld c E R L ⟨d, .load t x, ty, p, af, g⟩ (.agg ⟨vs⟩) :=
  y_loads_of hT hn e fun w hs j v hj => by
    rw [(hs.find f).blk_cell, nth_eq]
    subst hv
    rw [List.getElem?_take] at hj
    split at hj
    · rwa [List.getElem?_drop] at hj
    · cases hj
theorem y_slice_arr {x : Operand} {t e : TypeId} {n sz : Nat} {a : Addr} (hT : c.P.underlying t = some (.array n e)) (hS : ∀ w, (sizeOf e).run c.P w = .ok sz w)
    (e1 : ev E x = some (.pointer (some a))) : Yld c E R L ⟨d, .slice t x none none none, ty, p, af, g⟩ (.slice (some a) n n) :=
  fun _ w hf _ => by
    have r : (Instr.sliceAt t (.pointer (some a)) none none none).run c.P w = .ok (.slice (some a) n n) w := by
      simp [Instr.sliceAt, run_underlying hT, Instr.sureAddr, Instr.sliceBounds, hS, Addr.add]
    simp [execOp, hf.ev e1, r, Oper.quietUpon]
/-- bytes as a text -/
theorem y_bytes_str {x : Operand} {s t e : TypeId} {b off len cap : Nat} {bs : List UInt8} (hS : c.P.underlying s = some (.slice e)) (hE : c.P.underlying e = some (.int .u8)) (hT : c.P.underlying t = some .string)
    (e1 : ev E x = some (.slice (some ⟨b, off, none⟩) len cap)) (hl : bs.length = len) (hc : ∀ w, Sat c.σ R L w → ∀ (j : Nat) (u : UInt8), bs[j]? = some u → w.cell? ⟨b, off + j, none⟩ = some (.int .u8 (u.toNat : Int))) :
    Yld c E R L ⟨d, .convert s t x, ty, p, af, g⟩ (.string (str bs)) :=
  fun _ w hf hs => by
    have r2 : (convert s t (.slice (some ⟨b, off, none⟩) len cap)).run c.P w = .ok (.string (str bs)) w := by
      subst hl
      exact run_convert_bytes_back w s t e ⟨b, off, none⟩ cap bs hS hE hT fun j hj => by rw [add_mk]; exact hc w hs j bs[j] (by simp [hj])
    simp [execOp, hf.ev e1, r2, Oper.quietUpon]
end
end V
end Go.Proofs.Ytcgjlhhfldkdaaa
