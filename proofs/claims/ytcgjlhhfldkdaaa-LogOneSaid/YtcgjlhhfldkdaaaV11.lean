/- Rules for slices written out, results that lie in memory, function values. -/
import Derived.Test.YtcgjlhhfldkdaaaV10
set_option linter.unusedSimpArgs false
set_option linter.unusedVariables false
namespace Go.Proofs.Ytcgjlhhfldkdaaa
open Go.RowKit
namespace V
/-- the cells of a slice written out: all parts, in order -/
def bsl (sz : Nat) : Nat → List (Nat × Value) → Option (List Value)
  | _, [] => some []
  | k, (i, v) :: l => cond (Nat.beq i k && Nat.beq v.cells.size sz) ((bsl sz (k + 1) l).map fun r => v.cells.toList ++ r) none
theorem bsl_len {sz : Nat} : ∀ {l : List (Nat × Value)} {k : Nat} {r : List Value}, bsl sz k l = some r → r.length = l.length * sz
  | [], k, r, h => by simp only [bsl, Option.some.injEq] at h; subst h; simp
  | (i, v) :: l, k, r, h => by
    simp only [bsl] at h
    cases hb : (Nat.beq i k && Nat.beq v.cells.size sz) with
    | false => rw [hb] at h; cases h
    | true =>
      rw [hb] at h
      simp only [cond_true, Option.map_eq_some_iff] at h
      obtain ⟨r', h1, rfl⟩ := h
      simp only [Bool.and_eq_true] at hb
      have := Nat.eq_of_beq_eq_true hb.2
      simp only [List.length_append, List.length_cons, Array.length_toList, bsl_len h1, this, Nat.add_mul]; omega
theorem fill_bsl {sz : Nat} : ∀ (l : List (Nat × Value)) (k : Nat) (r : List Value) (cs : List Value), bsl sz k l = some r → (k + l.length) * sz ≤ cs.length →
    Instr.fill (fun i => some (i * sz, sz)) cs.toArray l = some (cs.take (k * sz) ++ r ++ cs.drop ((k + l.length) * sz)).toArray
  | [], k, r, cs, h, _ => by simp only [bsl, Option.some.injEq] at h; subst h; simp [Instr.fill]
  | (i, v) :: l, k, r, cs, h, hl => by
    simp only [bsl] at h
    cases hb : (Nat.beq i k && Nat.beq v.cells.size sz) with
    | false => rw [hb] at h; cases h
    | true =>
      rw [hb] at h
      simp only [cond_true, Option.map_eq_some_iff] at h
      obtain ⟨r', h1, rfl⟩ := h
      simp only [Bool.and_eq_true] at hb
      obtain rfl := Nat.eq_of_beq_eq_true hb.1
      have hsz := Nat.eq_of_beq_eq_true hb.2
      have hm : (i + (l.length + 1)) * sz = i * sz + (l.length * sz + sz) := by rw [Nat.add_mul, Nat.add_mul, Nat.one_mul]
      have hm2 : (i + 1 + l.length) * sz = i * sz + (l.length * sz + sz) := by rw [Nat.add_mul, Nat.add_mul, Nat.one_mul]; omega
      have hm3 : (i + 1) * sz = i * sz + sz := by rw [Nat.add_mul, Nat.one_mul]
      simp only [List.length_cons] at hl
      rw [hm] at hl
      simp only [Instr.fill]
      rw [if_neg (by simp [hsz]; omega)]
      have hf := foldl_set v.cells.toList 0 (i * sz) cs (by simp [hsz]; omega)
      simp only [Nat.add_zero] at hf
      have ez : v.cells.zipIdx = (v.cells.toList.zipIdx 0).toArray := by apply Array.ext'; simp
      rw [ez]
      simp only [List.foldl_toArray']
      rw [hf]
      have hcl : v.cells.toList.length = sz := by simp [hsz]
      rw [fill_bsl l (i + 1) r' _ h1 (by simp only [List.length_append, List.length_take, List.length_drop, hcl]; rw [hm2]; omega)]
      congr 2
      rw [hm2, hm3]
      rw [List.take_append_of_le_length (by simp only [List.length_append, List.length_take, hcl]; omega), List.take_of_length_le (by simp only [List.length_append, List.length_take, hcl]; omega)]
      rw [List.drop_append, List.drop_of_length_le (by simp only [List.length_append, List.length_take, hcl]; omega)]
      simp only [List.length_append, List.length_take, hcl, List.nil_append, List.drop_drop, List.length_cons, hm, List.append_assoc]
      congr 4
      omega
section
variable {c : Cx} {ops : Array Oper} {Q : Exit → Act → World → Prop} {E : Env} {R : Hp} {L M : List Asn} {rest : List Oper} {ty : TypeId} {p : String} {af : Array Edge} {g : Option (Nat × Bool)}
theorem rj_buildSlice {d : Nat} {t e : TypeId} {len sz : Nat} {parts : List (Nat × Operand)} {vs : List (Nat × Value)} {z : Value} {xs : List Value} (hw : Wn c ops E ⟨some d, .buildSlice t len ⟨parts⟩, ty, p, af, g⟩ true) (hn : Nat.blt d c.n = true)
    (hT : c.P.underlying t = some (.slice e)) (hS : ∀ w, (sizeOf e).run c.P w = .ok sz w) (hZ : ∀ w, (zeroValue e).run c.P w = .ok z w) (hv : evp E parts = some vs) (hp : bsl sz 0 vs = some xs) (hlen : vs.length = len) (hk : len * sz ≤ 16777216) (hm : len ≤ maxLen)
    (h : ∀ b, RJ c ops Q rest ((d, .slice (some ⟨b, 0, none⟩) len len) :: E) R (slc e sz (.slice (some ⟨b, 0, none⟩) len len) len xs :: L)) : RJ c ops Q (⟨some d, .buildSlice t len ⟨parts⟩, ty, p, af, g⟩ :: rest) E R L := by
  refine rj_new (v := fun b => .slice (some ⟨b, 0, none⟩) len len) (L' := fun b => slc e sz (.slice (some ⟨b, 0, none⟩) len len) len xs :: L) hw rfl hn (fun a w hf hs => ⟨w.heap.size, w.alloc (.cells ⟨xs⟩ e (0, 0)), ?_, ?_⟩) h
  · have hv' := hf.evp hv
    have e0 : (Array.mk parts).map (fun x => (x.1, a.eval x.2)) = ⟨vs⟩ := by rw [← hv']; simp
    have hxl := bsl_len hp
    rw [hlen] at hxl
    have hfill : ∀ zz : Array Value, Instr.fill (fun i => some (i * sz, sz)) ((Array.range (len * sz)).map (zz[· % zz.size]!)) vs = some ⟨xs⟩ := by
      intro zz
      have := fill_bsl vs 0 xs ((List.range (len * sz)).map (fun i => zz[i % zz.size]!)) hp (by simp [hlen])
      have e2 : ((Array.range (len * sz)).map (zz[· % zz.size]!)) = ((List.range (len * sz)).map (fun i => zz[i % zz.size]!)).toArray := by
        apply Array.ext'; simp
      rw [e2, this]
      simp [hlen]
    have hk' : ¬ (16777216 < len * sz) := by omega
    simp only [execOp]
    rw [show (Array.map (fun x => match x with | (i, x) => (i, a.eval x)) (Array.mk parts)) = (Array.mk parts).map (fun x => (x.1, a.eval x.2)) from rfl, e0]
    by_cases h0 : len * sz = 0
    · simp [Instr.buildSlice, run_underlying hT, hS, hk', h0]
      have := hfill #[]
      simp only [h0] at this
      simp at this
      simp [this, newRow]
    · simp [Instr.buildSlice, run_underlying hT, hS, hk', h0, hZ]
      have := hfill z.cells
      rw [this]
      simp [newRow]
  · refine Sat.turn (fun h hh => ?_) (hs.alloc (.cells ⟨xs⟩ e (0, 0)))
    have hxl := bsl_len hp
    rw [hlen] at hxl
    exact ⟨hxl, .inr ⟨w.heap.size, len, (0, 0), [], [], rfl, by simpa using hh, fun o _ h => by simp at h, Nat.le_refl _, hm, by simp [hxl]⟩⟩
theorem rv_cell {x : Tmp} {t et : TypeId} {b off : Nat} {l : List Value} {v : Value} (hT : One c.P t) (e : lk E x = some (.pointer (some ⟨b, off, none⟩))) (f : Find (blk b l et) L M) (h : nth l off = some v) : RV c E R L (.cell x t) v :=
  fun a w hf hs => by
    have h1 := hf.get x _ e
    have h2 : w.cell? ⟨b, off, none⟩ = some v := by rw [(hs.find f).blk_cell]; exact h
    simp [rvOf, h1, asAddr, loadVar, hT.1, load, Sem.run, h2]
theorem rv_cells {x : Tmp} {t et : TypeId} {b off n : Nat} {l vs : List Value} (hT : Many c.P t n) (e : lk E x = some (.pointer (some ⟨b, off, none⟩))) (f : Find (blk b l et) L M) (h : (l.drop off).take n = vs) (hn : vs.length = n) : RV c E R L (.cell x t) (.agg ⟨vs⟩) :=
  fun a w hf hs => by
    have h1 := hf.get x _ e
    have h2 := run_loadFrom (P := c.P) (w := w) (b := b) vs off 0 #[] (fun j v hj => by
      rw [Nat.add_zero, (hs.find f).blk_cell, nth_eq]
      subst h
      rw [List.getElem?_take] at hj
      split at hj
      · rwa [List.getElem?_drop] at hj
      · cases hj)
    simp [rvOf, h1, asAddr, loadVar, hT.1, hT.2, loadCells, ← hn, h2]
/-- several cells of a slice of ours are set -/
theorem rj_stores_slc {x y : Operand} {t e' : TypeId} {j sz n m : Nat} {v : Value} {xs ys vs : List Value} (hT : Many c.P t m) (hm : vs.length = m) (hw : Wn c ops E ⟨none, .store t x y, ty, p, af, g⟩ true) (e1 : ev E x = some (cellV v j)) (e2 : ev E y = some (.agg ⟨vs⟩)) (hu : ∀ u ∈ vs, u.oneCell' = true)
    (f : Find (slc e' sz v n xs) L M) (hj : j + vs.length ≤ xs.length) (hys : xs.take j ++ vs ++ xs.drop (j + vs.length) = ys) (hn : 0 < n) (h : RJ c ops Q rest E R (slc e' sz v n ys :: M)) : RJ c ops Q (⟨none, .store t x y, ty, p, af, g⟩ :: rest) E R L := by
  refine rj_runs hw rfl (fun a w hf hs => ?_) h
  obtain ⟨b, off, cap, hv, hc⟩ := cellV_addr hn (hs.find f)
  obtain ⟨hs2, hcell⟩ := Sat.slc_set (vs := vs) (hs.find f) hj (hc j)
  have hst := run_storeCells_cells (P := c.P) b (off + j) vs 0 w (fun i hi => (hcell i hi).1) (fun i hi => (hcell i hi).2) hu
  simp only [Nat.add_zero] at hst
  have e1' := e1
  rw [hc] at e1'
  rw [hys] at hs2
  refine ⟨_, ?_, hs2⟩
  simp [execOp, hf.ev e1', hf.ev e2, Instr.storeAt, Instr.sureAddr, storeVar, hT.2, Value.cells, hm, hst]
/-! ### what no longer changes -/
/-- a slice that lies in memory that no longer changes -/
def FrozenS (R : Hp) (v : Value) (n : Nat) (xs : List Value) : Prop := (v = .slice none 0 0 ∧ n = 0) ∨ ∃ b off cap, v = .slice (some ⟨b, off, none⟩) n cap ∧ n ≤ cap ∧ cap ≤ maxLen ∧ ∀ (j : Nat) (u : Value), xs[j]? = some u → Hp.cell R ⟨b, off + j, none⟩ = some u
theorem frozenS {R' : Hp} {e : TypeId} {sz n : Nat} {v : Value} {xs : List Value} (h : ∃ h : Hp, h.le R' ∧ slc e sz v n xs h) : FrozenS R' v n xs ∧ xs.length = n * sz := by
  obtain ⟨h, hle, hl, hs⟩ := h
  refine ⟨?_, hl⟩
  rcases hs with ⟨h1, h2⟩ | ⟨g, cap, fz, pre, post, rfl, h2, _, h3, h4, _⟩
  · exact .inl ⟨h1, h2⟩
  · refine .inr ⟨g, pre.length, cap, rfl, h3, h4, fun j u hj => ?_⟩
    have hb := hle _ _ h2
    have hlt := (List.getElem?_eq_some_iff.1 hj).1
    simp only [Hp.cell, hb]
    simp
    rw [List.getElem?_append_right (by omega), Nat.add_sub_cancel_left, List.getElem?_append_left hlt, hj]
theorem cj_freeze {x : Code} {e : TypeId} {sz n : Nat} {v : Value} {xs : List Value} (f : Find (slc e sz v n xs) L M) (h : ∀ R', R.le R' → FrozenS R' v n xs → xs.length = n * sz → CJ c x Q E R' M) : CJ c x Q E R L := fun a w hf hs => by
  obtain ⟨R', h1, h2, h3⟩ := (hs.find f).freeze
  exact h R' h1 (frozenS h2).1 (frozenS h2).2 a w hf h3
theorem ej_freeze {q : Act → World → Prop} {e : TypeId} {sz n : Nat} {v : Value} {xs : List Value} (f : Find (slc e sz v n xs) L M) (h : ∀ R', R.le R' → FrozenS R' v n xs → xs.length = n * sz → EJ c q E R' M) : EJ c q E R L := fun a w hf hs => by
  obtain ⟨R', h1, h2, h3⟩ := (hs.find f).freeze
  exact h R' h1 (frozenS h2).1 (frozenS h2).2 a w hf h3
theorem rj_freeze {l : List Oper} {e : TypeId} {sz n : Nat} {v : Value} {xs : List Value} (f : Find (slc e sz v n xs) L M) (h : ∀ R', R.le R' → FrozenS R' v n xs → xs.length = n * sz → RJ c ops Q l E R' M) : RJ c ops Q l E R L := fun a w hf hs => by
  obtain ⟨R', h1, h2, h3⟩ := (hs.find f).freeze
  exact h R' h1 (frozenS h2).1 (frozenS h2).2 a w hf h3
/-! ### function values -/
theorem y_makeFunc {d : Option Tmp} {fn : Fn} {first cap : List Operand} {fs cs : List Value} (h1 : evs E first = some fs) (h2 : evs E cap = some cs) : Yld c E R L ⟨d, .makeFunc fn ⟨first⟩ ⟨cap⟩, ty, p, af, g⟩ (.func fn ⟨fs⟩ ⟨cs⟩) :=
  fun a w hf _ => by
    have e1 : (Array.mk first).map a.eval = ⟨fs⟩ := by rw [← hf.evs h1]; simp
    have e2 : (Array.mk cap).map a.eval = ⟨cs⟩ := by rw [← hf.evs h2]; simp
    simp [execOp, Instr.makeFunc, e1, e2, Oper.quietUpon]
theorem run_callv {a : Act} {w : World} {d : Option Tmp} {f : FuncId} {x : Operand} {xs : List Operand} {ts : Array TypeId} {vs cs : List Value} (hx : a.eval x = .func (.func f) ⟨[]⟩ ⟨cs⟩) (hc : ∀ args w, (callFunc f args).run c.P w = .ok (.enter f args) w)
    (hv : xs.map a.eval = vs) : (execOp a.eval ⟨d, .call { callee := .value x, args := ⟨xs⟩, argTypes := ts }, ty, p, af, g⟩).run c.P w = .ok (.enter f ⟨vs ++ cs⟩) w := by
  have e : (Array.mk xs).map a.eval = ⟨vs⟩ := by rw [← hv]; simp
  have e2 : (Array.mk vs) ++ (Array.mk cs) = ⟨vs ++ cs⟩ := by simp
  simp [execOp, resolve, hx, Deferred.ofValue, invoke, e, hc, e2]
theorem y_callv {d : Option Tmp} {f : FuncId} {x : Operand} {xs : List Operand} {ts : Array TypeId} {vs cs : List Value} {pre F : List Asn} {v : Value} (hx : ev E x = some (.func (.func f) ⟨[]⟩ ⟨cs⟩)) (hc : ∀ args w, (callFunc f args).run c.P w = .ok (.enter f args) w)
    (hv : evs E xs = some vs) (ht : QTri c.P f (vs ++ cs) R pre v) (hs : Split L pre F) : Yld c E R L ⟨d, .call { callee := .value x, args := ⟨xs⟩, argTypes := ts }, ty, p, af, g⟩ v :=
  fun a w hf hw => by
    rw [run_callv (hf.ev hx) hc (hf.evs hv)]
    exact ⟨rfl, (ht _ _ _ (hs.sat hw)).mono fun e w' ⟨h1, h2⟩ => ⟨h1, hs.satBack h2⟩⟩
theorem rj_callv {d : Nat} {f : FuncId} {x : Operand} {xs : List Operand} {ts : Array TypeId} {vs cs : List Value} {pre F : List Asn} {post : Value → Hp → List Asn → Prop} {pan : List PanicEntry → Hp → List Asn → Prop}
    (hw : Wn c ops E ⟨some d, .call { callee := .value x, args := ⟨xs⟩, argTypes := ts }, ty, p, af, g⟩ true) (hn : Nat.blt d c.n = true) (hx : ev E x = some (.func (.func f) ⟨[]⟩ ⟨cs⟩)) (hc : ∀ args w, (callFunc f args).run c.P w = .ok (.enter f args) w)
    (hv : evs E xs = some vs) (ht : Tri c.P f (vs ++ cs) R pre post pan) (hs : Split L pre F)
    (hp : ∀ ch R' L', R.le R' → pan ch R' L' → EJ c (Q (.panic ch)) E R' (L' ++ F))
    (h : ∀ v R' L', R.le R' → post v R' L' → RJ c ops Q rest ((d, v) :: E) R' (L' ++ F)) :
    RJ c ops Q (⟨some d, .call { callee := .value x, args := ⟨xs⟩, argTypes := ts }, ty, p, af, g⟩ :: rest) E R L := by
  intro a w hf hsat
  unfold wpList
  rw [if_pos (hw a hf)]
  refine .inl ?_
  unfold Oper.wp
  rw [run_callv (hf.ev hx) hc (hf.evs hv)]
  simp only [Oper.upon]
  refine (ht _ _ _ (hs.sat hsat)).mono fun e w' ⟨R', L', hR, hw', hpost⟩ => ?_
  cases e with
  | returned v => exact h v R' L' hR hpost _ _ (hf.put hn v) hw'
  | panicked ch => exact hp ch R' L' hR hpost _ _ hf hw'
  | outgrown => exact hpost.elim
end
end V
end Go.Proofs.Ytcgjlhhfldkdaaa
