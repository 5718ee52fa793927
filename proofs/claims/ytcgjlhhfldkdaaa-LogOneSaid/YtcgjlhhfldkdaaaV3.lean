/- The rules for memory: loads, addresses, stores, new variables, calls. -/
import Derived.Test.YtcgjlhhfldkdaaaV2
set_option linter.unusedSimpArgs false
set_option linter.unusedVariables false
namespace Go.Proofs.Ytcgjlhhfldkdaaa
open Go.RowKit
namespace V
/-! ### lists of cells -/
def nth : List Value → Nat → Option Value
  | [], _ => none
  | x :: _, 0 => some x
  | _ :: l, n + 1 => nth l n
def setNth : List Value → Nat → Value → List Value
  | [], _, _ => []
  | _ :: l, 0, v => v :: l
  | x :: l, n + 1, v => x :: setNth l n v
theorem nth_eq (l : List Value) : ∀ n, nth l n = l[n]? := by
  induction l with
  | nil => intro n; simp [nth]
  | cons x l ih => intro n; cases n with | zero => simp [nth] | succ n => simp [nth, ih]
theorem setNth_eq (l : List Value) (v : Value) : ∀ n, setNth l n v = l.set n v := by
  induction l with
  | nil => intro n; simp [setNth]
  | cons x l ih => intro n; cases n with | zero => simp [setNth] | succ n => simp [setNth, ih]
/-- block b is a row of cells, as a list -/
def blk (b : Nat) (l : List Value) (e : TypeId) : Asn := pts b ⟨l⟩ e
theorem Sat.blk_heap {σ : World} {R : Hp} {L : List Asn} {w : World} {b : Nat} {l : List Value} {e : TypeId} (s : Sat σ R (blk b l e :: L) w) : w.heap[b]? = some (.cells ⟨l⟩ e (0, 0)) := s.pts_heap
theorem Sat.blk_cell {σ : World} {R : Hp} {L : List Asn} {w : World} {b : Nat} {l : List Value} {e : TypeId} (s : Sat σ R (blk b l e :: L) w) (off : Nat) : w.cell? ⟨b, off, none⟩ = nth l off := by
  simp [World.cell?, s.blk_heap, nth_eq]
theorem Sat.blk_frozen {σ : World} {R : Hp} {L : List Asn} {w : World} {b : Nat} {l : List Value} {e : TypeId} (s : Sat σ R (blk b l e :: L) w) (off : Nat) : w.frozen? ⟨b, off, none⟩ = false := by
  simp [World.frozen?, s.blk_heap]
theorem Sat.blk_set {σ : World} {R : Hp} {L : List Asn} {w : World} {b off : Nat} {l : List Value} {e : TypeId} (v : Value) (s : Sat σ R (blk b l e :: L) w) :
    Sat σ R (blk b (setNth l off v) e :: L) (w.setCell ⟨b, off, none⟩ v) := by
  have := s.set (off := off) v
  rw [setNth_eq]
  simpa [blk] using this
/-- a reader: some assertion that tells cells -/
def Tells (A : Asn) (b : Nat) (off : Nat) (v : Value) : Prop := ∀ h : Hp, A h → Hp.cell h ⟨b, off, none⟩ = some v
theorem cell_le {h : Hp} {w : World} {a : Addr} {v : Value} (k : ∀ b o, h b = some o → w.heap[b]? = some o) (e : Hp.cell h a = some v) : w.cell? a = some v := by
  unfold Hp.cell at e
  unfold World.cell?
  cases hb : h a.block with
  | none => rw [hb] at e; cases e
  | some o => rw [hb] at e; rw [k _ _ hb]; exact e
theorem Sat.tells {σ : World} {R : Hp} {L : List Asn} {w : World} {A : Asn} {b off : Nat} {v : Value} (t : Tells A b off v) (s : Sat σ R (A :: L) w) : w.cell? ⟨b, off, none⟩ = some v := by
  obtain ⟨g, a, _, h1, h2, c⟩ := s.own
  exact cell_le (fun b o h => a _ _ (c.1 _ _ h)) (t _ c.2.2.2.1)
theorem Sat.ro_cell {σ : World} {R : Hp} {L : List Asn} {w : World} {a : Addr} {v : Value} (s : Sat σ R L w) (e : Hp.cell R a = some v) : w.cell? a = some v := cell_le s.ro e
theorem blk_tells {b off : Nat} {l : List Value} {e : TypeId} {v : Value} (h : nth l off = some v) : Tells (blk b l e) b off v := fun g hg => by
  have hg' : g b = some (.cells ⟨l⟩ e (0, 0)) := hg
  simp only [Hp.cell, hg']
  simpa [nth_eq] using h

theorem add_mk (b o k : Nat) : (⟨b, o, none⟩ : Addr).add k = ⟨b, o + k, none⟩ := by unfold Addr.add; split <;> simp_all
/-- a type of one cell · the table's facts, as the loaded program gives them -/
def One (P : Program) (t : TypeId) : Prop := (∀ w, (isAgg t).run P w = .ok false w) ∧ ∀ w, (sizeOf t).run P w = .ok 1 w
def Many (P : Program) (t : TypeId) (n : Nat) : Prop := (∀ w, (isAgg t).run P w = .ok true w) ∧ ∀ w, (sizeOf t).run P w = .ok n w
def fieldOf (fs : Array Field) (f : Nat) : Option (TypeId × Nat) := (fs[f]?).map fun x => (x.type, x.offset)

section
variable {c : Cx} {E : Env} {R : Hp} {L : List Asn} {d : Option Tmp} {ty : TypeId} {p : String} {af : Array Edge} {g : Option (Nat × Bool)}

theorem y_load_of {x : Operand} {t : TypeId} {b off : Nat} {v : Value} (hT : One c.P t) (e : ev E x = some (.pointer (some ⟨b, off, none⟩)))
    (hc : ∀ w, Sat c.σ R L w → w.cell? ⟨b, off, none⟩ = some v) : Yld c E R L ⟨d, .load t x, ty, p, af, g⟩ v :=
  fun a w hf hs => by
    have h := hc w hs
    have r : (Instr.loadAt t (.pointer (some ⟨b, off, none⟩))).run c.P w = .ok v w := by
      simp [Instr.loadAt, Instr.sureAddr, loadVar, hT.1, load, Sem.run, h]
    simp [execOp, hf.ev e, r, Oper.quietUpon]
theorem y_load {x : Operand} {t : TypeId} {b off : Nat} {l : List Value} {et : TypeId} {M : List Asn} {v : Value} (hT : One c.P t) (e : ev E x = some (.pointer (some ⟨b, off, none⟩)))
    (f : Find (blk b l et) L M) (h : nth l off = some v) : Yld c E R L ⟨d, .load t x, ty, p, af, g⟩ v :=
  y_load_of hT e fun w hs => by rw [(hs.find f).blk_cell]; exact h
theorem y_load_ro {x : Operand} {t : TypeId} {b off : Nat} {v : Value} (hT : One c.P t) (e : ev E x = some (.pointer (some ⟨b, off, none⟩)))
    (h : Hp.cell R ⟨b, off, none⟩ = some v) : Yld c E R L ⟨d, .load t x, ty, p, af, g⟩ v :=
  y_load_of hT e fun _ hs => hs.ro_cell h
theorem y_load_t {x : Operand} {t : TypeId} {b off : Nat} {A : Asn} {M : List Asn} {v : Value} (hT : One c.P t) (e : ev E x = some (.pointer (some ⟨b, off, none⟩)))
    (f : Find A L M) (h : Tells A b off v) : Yld c E R L ⟨d, .load t x, ty, p, af, g⟩ v :=
  y_load_of hT e fun _ hs => (hs.find f).tells h
/-- several cells -/
theorem run_loadFrom {P : Program} {w : World} {b : Nat} : ∀ (vs : List Value) (off i : Nat) (acc : Array Value), (∀ j v, vs[j]? = some v → w.cell? ⟨b, off + i + j, none⟩ = some v) →
    (loadCellsFrom ⟨b, off, none⟩ i vs.length acc).run P w = .ok (acc ++ vs.toArray) w := by
  intro vs
  induction vs with
  | nil => intro off i acc _; simp [loadCellsFrom]
  | cons v vs ih =>
    intro off i acc h
    have h0 : w.cell? ⟨b, off + i, none⟩ = some v := by simpa using h 0 v rfl
    have := ih off (i + 1) (acc.push v) (fun j u hu => by have := h (j + 1) u (by simpa using hu); rwa [show off + (i + 1) + j = off + i + (j + 1) by omega])
    simp only [List.length_cons, loadCellsFrom, add_mk, Sem.run_bind]
    simp only [load, Sem.run, h0, Result.andThen_ok, this]
    simp
theorem y_loads_of {x : Operand} {t : TypeId} {b off n : Nat} {vs : List Value} (hT : Many c.P t n) (hn : vs.length = n) (e : ev E x = some (.pointer (some ⟨b, off, none⟩)))
    (hc : ∀ w, Sat c.σ R L w → ∀ j v, vs[j]? = some v → w.cell? ⟨b, off + j, none⟩ = some v) : Yld c E R L ⟨d, .load t x, ty, p, af, g⟩ (.agg vs.toArray) :=
  fun a w hf hs => by
    have h := run_loadFrom (P := c.P) (w := w) (b := b) vs off 0 #[] (by simpa using hc w hs)
    have r : (Instr.loadAt t (.pointer (some ⟨b, off, none⟩))).run c.P w = .ok (.agg vs.toArray) w := by
      simp [Instr.loadAt, Instr.sureAddr, loadVar, hT.1, hT.2, loadCells, ← hn, h]
    simp [execOp, hf.ev e, r, Oper.quietUpon]
theorem y_fieldAddr {x : Operand} {s ft : TypeId} {f b off k : Nat} {fs : Array Field} (hS : c.P.underlying s = some (.struct fs)) (hF : fieldOf fs f = some (ft, k)) {n : Nat} (hn : n ≠ 0) (hZ : ∀ w, (sizeOf ft).run c.P w = .ok n w)
    (e : ev E x = some (.pointer (some ⟨b, off, none⟩))) : Yld c E R L ⟨d, .fieldAddr s x f, ty, p, af, g⟩ (.pointer (some ⟨b, off + k, none⟩)) :=
  fun a w hf _ => by
    unfold fieldOf at hF
    cases hx : fs[f]? with
    | none => rw [hx] at hF; cases hF
    | some fd =>
      rw [hx] at hF
      simp only [Option.map_some, Option.some.injEq, Prod.mk.injEq] at hF
      have hz : (sizeOf fd.type).run c.P w = .ok n w := by rw [hF.1]; exact hZ w
      have r : (Instr.fieldAt s (.pointer (some ⟨b, off, none⟩)) f).run c.P w = .ok (.pointer (some ⟨b, off + k, none⟩)) w := by
        simp [Instr.fieldAt, run_underlying hS, hx, Instr.sureAddr, fieldPlace, hz, hn, add_mk, hF.2]
      simp [execOp, hf.ev e, r, Oper.quietUpon]
theorem y_field {x : Operand} {s ft : TypeId} {f k : Nat} {fs : Array Field} {vs : List Value} {v : Value} (hS : c.P.underlying s = some (.struct fs)) (hF : fieldOf fs f = some (ft, k)) (hT : One c.P ft)
    (e : ev E x = some (.agg ⟨vs⟩)) (hv : nth vs k = some v) : Yld c E R L ⟨d, .field s x f, ty, p, af, g⟩ v :=
  fun a w hf _ => by
    unfold fieldOf at hF
    cases hx : fs[f]? with
    | none => rw [hx] at hF; cases hF
    | some fd =>
      rw [hx] at hF
      simp only [Option.map_some, Option.some.injEq, Prod.mk.injEq] at hF
      have hz : (isAgg fd.type).run c.P w = .ok false w := by rw [hF.1]; exact hT.1 w
      rw [nth_eq] at hv
      have r : (Instr.field s (.agg ⟨vs⟩) f).run c.P w = .ok v w := by
        simp [Instr.field, run_underlying hS, hx, asAgg, part, hz, hF.2, hv]
      simp [execOp, hf.ev e, r, Oper.quietUpon]
/-- a struct put together: offsets and sizes of its fields, its zero, the parts' cells -/
def fillL (pl : List (Nat × Nat)) : List Value → List (Nat × List Value) → Option (List Value)
  | cs, [] => some cs
  | cs, (i, vs) :: rest =>
    match pl[i]? with
    | none => none
    | some (off, size) => cond (vs.length == size && Nat.ble (off + vs.length) cs.length) (fillL pl (cs.take off ++ vs ++ cs.drop (off + vs.length)) rest) none
def cellsP : List (Nat × Value) → List (Nat × List Value)
  | [] => []
  | (i, v) :: l => (i, v.cells.toList) :: cellsP l
theorem cellsP_eq (l : List (Nat × Value)) : cellsP l = l.map fun x => (x.1, x.2.cells.toList) := by
  induction l with
  | nil => rfl
  | cons x l ih => obtain ⟨i, v⟩ := x; simp [cellsP, ih]
def evp (E : Env) : List (Nat × Operand) → Option (List (Nat × Value))
  | [] => some []
  | (i, x) :: l => match ev E x, evp E l with
    | some v, some vs => some ((i, v) :: vs)
    | _, _ => none
theorem Fr.evp {n : Nat} {E : Env} {a : Act} (h : Fr n E a) : ∀ {l : List (Nat × Operand)} {vs : List (Nat × Value)}, V.evp E l = some vs → (l.map fun x => (x.1, a.eval x.2)) = vs
  | [], vs, e => by simp only [V.evp, Option.some.injEq] at e; subst e; rfl
  | (i, x) :: l, vs, e => by
    simp only [V.evp] at e
    split at e
    · rename_i v us h1 h2
      simp only [Option.some.injEq] at e; subst e
      simp [h.ev h1, h.evp h2]
    · cases e
theorem foldl_set (vs : List Value) : ∀ (k off : Nat) (cs : List Value), off + k + vs.length ≤ cs.length →
    (vs.zipIdx k).foldl (fun (cs : Array Value) (x : Value × Nat) => cs.setIfInBounds (off + x.2) x.1) cs.toArray = (cs.take (off + k) ++ vs ++ cs.drop (off + k + vs.length)).toArray := by
  induction vs with
  | nil => intro k off cs _; simp
  | cons v vs ih =>
    intro k off cs h
    simp only [List.length_cons] at h
    simp only [List.zipIdx_cons, List.foldl_cons, List.setIfInBounds_toArray]
    have := ih (k + 1) off (cs.set (off + k) v) (by simp; omega)
    simp only [Nat.add_assoc] at this ⊢
    rw [this]
    congr 1
    rw [List.take_set, List.drop_set_of_lt (by omega), List.length_cons]
    have e1 : (cs.take (off + (k + 1))).set (off + k) v = cs.take (off + k) ++ [v] := by
      have : off + (k + 1) = off + k + 1 := by omega
      rw [this, List.take_succ_eq_append_getElem (by omega), List.set_append_right _ _ (by simp; omega)]
      simp [Nat.min_eq_left (by omega : off + k ≤ cs.length)]
    rw [e1]
    simp [show off + (k + (vs.length + 1)) = off + (k + (1 + vs.length)) by omega]
theorem fill_eq (pl : List (Nat × Nat)) : ∀ (vs : List (Nat × Value)) (cs out : List Value), fillL pl cs (vs.map fun x => (x.1, x.2.cells.toList)) = some out →
    Instr.fill (fun i => pl[i]?) cs.toArray vs = some out.toArray := by
  intro vs
  induction vs with
  | nil => intro cs out h; simp only [List.map_nil, fillL, Option.some.injEq] at h; subst h; rfl
  | cons x vs ih =>
    intro cs out h
    obtain ⟨i, v⟩ := x
    simp only [List.map_cons, fillL] at h
    simp only [Instr.fill]
    cases hp : pl[i]? with
    | none => rw [hp] at h; cases h
    | some q =>
      obtain ⟨off, size⟩ := q
      rw [hp] at h
      simp only at h ⊢
      cases hb : (v.cells.toList.length == size && Nat.ble (off + v.cells.toList.length) cs.length) with
      | false => rw [hb] at h; cases h
      | true =>
        rw [hb] at h
        simp only [cond_true] at h
        simp only [Bool.and_eq_true, beq_iff_eq, Array.length_toList] at hb
        obtain ⟨h1, h2⟩ := hb
        have h2' : off + v.cells.size ≤ cs.length := by simpa using Nat.le_of_ble_eq_true h2
        rw [if_neg (by simp [h1]; omega)]
        have := foldl_set v.cells.toList 0 off cs (by simpa using h2')
        simp only [Nat.add_zero] at this
        rw [← ih _ _ h]
        congr 1
        rw [← this]
        have : v.cells.zipIdx = (v.cells.toList.zipIdx 0).toArray := by
          apply Array.ext'; simp
        rw [this]
        simp
theorem y_build {t : TypeId} {parts : List (Nat × Operand)} {fs : List Field} {vs : List (Nat × Value)} {z : Value} {cells : List Value} (pl : List (Nat × Nat)) (hS : c.P.underlying t = some (.struct ⟨fs⟩)) (hz : ∀ w, (zeroValue t).run c.P w = .ok z w)
    (hpl : ∀ w, (fs.mapM fun f => (do pure (f.offset, ← sizeOf f.type) : Sem (Nat × Nat))).run c.P w = .ok pl w)
    (hv : evp E parts = some vs)
    (hf : fillL pl z.cells.toList (cellsP vs) = some cells) : Yld c E R L ⟨d, .build t ⟨parts⟩, ty, p, af, g⟩ (.agg ⟨cells⟩) :=
  fun a w ha _ => by
    have hv' := ha.evp hv
    rw [cellsP_eq] at hf
    have hm : ((Array.mk fs).mapM fun f => (do pure (f.offset, ← sizeOf f.type) : Sem (Nat × Nat))).run c.P w = .ok pl.toArray w := by
      have e : (Array.mk fs) = fs.toArray := rfl
      rw [e, List.mapM_toArray]
      simp only [map_eq_pure_bind, Sem.run_bind] at hpl ⊢
      rw [hpl w]
      simp
    have hfl := fill_eq pl vs z.cells.toList cells hf
    have r : (Instr.build t ⟨vs⟩).run c.P w = .ok (.agg ⟨cells⟩) w := by
      unfold Instr.build
      simp only [Sem.run_bind, hz, Result.andThen_ok, run_underlying hS, hm]
      have e2 : (fun i : Nat => pl.toArray[i]?) = fun i : Nat => pl[i]? := by funext i; simp
      rw [e2]
      have e3 : z.cells = z.cells.toList.toArray := by simp
      rw [e3, hfl]
      simp
    have e : (Array.mk parts).map (fun x => (x.1, a.eval x.2)) = ⟨vs⟩ := by
      rw [← hv']; simp
    simp only [execOp]
    rw [show (Array.map (fun x => match x with | (i, x) => (i, a.eval x)) (Array.mk parts)) = (Array.mk parts).map (fun x => (x.1, a.eval x.2)) from rfl, e]
    simp [r, Oper.quietUpon]
end
end V
end Go.Proofs.Ytcgjlhhfldkdaaa
