/- The rules for stores, new variables and calls; how a function's body is entered and left. -/
import Derived.Test.YtcgjlhhfldkdaaaV3
set_option linter.unusedSimpArgs false
set_option linter.unusedVariables false
namespace Go.Proofs.Ytcgjlhhfldkdaaa
open Go.RowKit
namespace V
/-! ### contracts -/
/-- what a call does: what it finds, what it hands back and leaves, or with what it panics -/
def Tri (P : Program) (f : FuncId) (args : List Value) (R : Hp) (L : List Asn) (post : Value → Hp → List Asn → Prop) (pan : List PanicEntry → Hp → List Asn → Prop := fun _ _ _ => False) : Prop :=
  ∀ σ F w, Sat σ R (L ++ F) w → Calls P f ⟨args⟩ w fun e w' => ∃ R' L', R.le R' ∧ Sat σ R' (L' ++ F) w' ∧
    match e with
    | .returned v => post v R' L'
    | .panicked ch => pan ch R' L'
    | .outgrown => False
/-- a call that leaves memory as it is told -/
def QTri (P : Program) (f : FuncId) (args : List Value) (R : Hp) (L : List Asn) (v : Value) : Prop :=
  ∀ σ F w, Sat σ R (L ++ F) w → Calls P f ⟨args⟩ w fun e w' => e = .returned v ∧ Sat σ R (L ++ F) w'
theorem QTri.tri {P : Program} {f : FuncId} {args : List Value} {R : Hp} {L : List Asn} {v : Value} (h : QTri P f args R L v) : Tri P f args R L (fun u R' L' => u = v ∧ R' = R ∧ L' = L) :=
  fun σ F w hs => (h σ F w hs).mono fun e w' ⟨he, hw⟩ => ⟨R, L, Hp.le_refl R, hw, by subst he; exact ⟨rfl, rfl, rfl⟩⟩
theorem Tri.q {P : Program} {f : FuncId} {args : List Value} {R : Hp} {L : List Asn} {v : Value} (h : Tri P f args R L (fun u R' L' => u = v ∧ R' = R ∧ L' = L)) : QTri P f args R L v :=
  fun σ F w hs => (h σ F w hs).mono fun e w' ⟨R', L', _, hw, hp⟩ => by
    cases e with
    | returned u => obtain ⟨rfl, rfl, rfl⟩ := hp; exact ⟨rfl, hw⟩
    | panicked ch => exact hp.elim
    | outgrown => exact hp.elim
theorem Tri.mono {P : Program} {f : FuncId} {args : List Value} {R : Hp} {L : List Asn} {p p' : Value → Hp → List Asn → Prop} {q q' : List PanicEntry → Hp → List Asn → Prop} (h : Tri P f args R L p q)
    (k : ∀ v R' L', R.le R' → p v R' L' → p' v R' L') (k' : ∀ v R' L', R.le R' → q v R' L' → q' v R' L') : Tri P f args R L p' q' :=
  fun σ F w hs => (h σ F w hs).mono fun e w' ⟨R', L', hR, hw, hp⟩ => ⟨R', L', hR, hw, by cases e with | returned v => exact k _ _ _ hR hp | panicked ch => exact k' _ _ _ hR hp | outgrown => exact hp⟩
/-- a list's part, and what is left of it -/
inductive Split : List Asn → List Asn → List Asn → Prop
  | nil (L : List Asn) : Split L [] L
  | cons {A : Asn} {L L1 pre F : List Asn} : Find A L L1 → Split L1 pre F → Split L (A :: pre) F
theorem zN (L : List Asn) : Split L [] L := .nil L
theorem zS {A : Asn} {L L1 pre F : List Asn} (h : Find A L L1) (k : Split L1 pre F) : Split L (A :: pre) F := .cons h k
theorem Split.stars {L pre F : List Asn} (s : Split L pre F) : ∀ {h : Hp}, V.stars L h → V.stars (pre ++ F) h := by
  induction s with
  | nil L => exact fun s => s
  | cons f _ ih => intro h s; obtain ⟨h1, h2, a, b, c, d, e⟩ := f.stars s; exact ⟨h1, h2, a, b, c, d, ih e⟩
theorem Split.back {L pre F : List Asn} (s : Split L pre F) : ∀ {h : Hp}, V.stars (pre ++ F) h → V.stars L h := by
  induction s with
  | nil L => exact fun s => s
  | cons f _ ih => rintro h ⟨h1, h2, a, b, c, d, e⟩; exact f.back ⟨h1, h2, a, b, c, d, ih e⟩
theorem Split.sat {L pre F : List Asn} (s : Split L pre F) {σ : World} {R : Hp} {w : World} (h : Sat σ R L w) : Sat σ R (pre ++ F) w :=
  ⟨h.os, h.tape, h.output, h.ro, let ⟨g, a, b, c⟩ := h.own; ⟨g, a, b, s.stars c⟩⟩
theorem Split.satBack {L pre F : List Asn} (s : Split L pre F) {σ : World} {R : Hp} {w : World} (h : Sat σ R (pre ++ F) w) : Sat σ R L w :=
  ⟨h.os, h.tape, h.output, h.ro, let ⟨g, a, b, c⟩ := h.own; ⟨g, a, b, s.back c⟩⟩
def evs (E : Env) : List Operand → Option (List Value)
  | [] => some []
  | x :: xs => match ev E x, evs E xs with
    | some v, some vs => some (v :: vs)
    | _, _ => none
theorem Fr.evs {n : Nat} {E : Env} {a : Act} (h : Fr n E a) : ∀ {xs : List Operand} {vs : List Value}, V.evs E xs = some vs → xs.map a.eval = vs
  | [], vs, e => by simp only [V.evs, Option.some.injEq] at e; subst e; rfl
  | x :: xs, vs, e => by
    simp only [V.evs] at e
    split at e
    · rename_i v us h1 h2
      simp only [Option.some.injEq] at e; subst e
      simp [h.ev h1, h.evs h2]
    · cases e

section
variable {c : Cx} {ops : Array Oper} {Q : Exit → Act → World → Prop} {E : Env} {R : Hp} {L : List Asn} {rest : List Oper} {ty : TypeId} {p : String} {af : Array Edge} {g : Option (Nat × Bool)}

theorem run_call {a : Act} {w : World} {d : Option Tmp} {f : FuncId} {xs : List Operand} {ts : Array TypeId} {vs : List Value} (hc : ∀ args w, (callFunc f args).run c.P w = .ok (.enter f args) w)
    (hv : xs.map a.eval = vs) : (execOp a.eval ⟨d, .call { callee := .value (.func f), args := ⟨xs⟩, argTypes := ts }, ty, p, af, g⟩).run c.P w = .ok (.enter f ⟨vs⟩) w := by
  have e : (Array.mk xs).map a.eval = ⟨vs⟩ := by rw [← hv]; simp
  simp [execOp, resolve, Act.eval, Deferred.ofValue, invoke, e, hc]
/-- a quiet call -/
theorem y_call {d : Option Tmp} {f : FuncId} {xs : List Operand} {ts : Array TypeId} {vs : List Value} {pre F : List Asn} {v : Value} (hc : ∀ args w, (callFunc f args).run c.P w = .ok (.enter f args) w)
    (hv : evs E xs = some vs) (ht : QTri c.P f vs R pre v) (hs : Split L pre F) : Yld c E R L ⟨d, .call { callee := .value (.func f), args := ⟨xs⟩, argTypes := ts }, ty, p, af, g⟩ v :=
  fun a w hf hw => by
    rw [run_call hc (hf.evs hv)]
    exact ⟨rfl, (ht _ _ _ (hs.sat hw)).mono fun e w' ⟨h1, h2⟩ => ⟨h1, hs.satBack h2⟩⟩
/-- a call that writes -/
theorem rj_call {d : Nat} {f : FuncId} {xs : List Operand} {ts : Array TypeId} {vs : List Value} {pre F : List Asn} {post : Value → Hp → List Asn → Prop} {pan : List PanicEntry → Hp → List Asn → Prop}
    (hw : Wn c ops E ⟨some d, .call { callee := .value (.func f), args := ⟨xs⟩, argTypes := ts }, ty, p, af, g⟩ true) (hn : Nat.blt d c.n = true) (hc : ∀ args w, (callFunc f args).run c.P w = .ok (.enter f args) w)
    (hv : evs E xs = some vs) (ht : Tri c.P f vs R pre post pan) (hs : Split L pre F)
    (hp : ∀ ch R' L', R.le R' → pan ch R' L' → EJ c (Q (.panic ch)) E R' (L' ++ F))
    (h : ∀ v R' L', R.le R' → post v R' L' → RJ c ops Q rest ((d, v) :: E) R' (L' ++ F)) :
    RJ c ops Q (⟨some d, .call { callee := .value (.func f), args := ⟨xs⟩, argTypes := ts }, ty, p, af, g⟩ :: rest) E R L := by
  intro a w hf hsat
  unfold wpList
  rw [if_pos (hw a hf)]
  refine .inl ?_
  unfold Oper.wp
  rw [run_call hc (hf.evs hv)]
  simp only [Oper.upon]
  refine (ht _ _ _ (hs.sat hsat)).mono fun e w' ⟨R', L', hR, hw', hpost⟩ => ?_
  cases e with
  | returned v => exact h v R' L' hR hpost _ _ (hf.put hn v) hw'
  | panicked ch => exact hp ch R' L' hR hpost _ _ hf hw'
  | outgrown => exact hpost.elim
theorem rj_call0 {f : FuncId} {xs : List Operand} {ts : Array TypeId} {vs : List Value} {pre F : List Asn} {post : Value → Hp → List Asn → Prop} {pan : List PanicEntry → Hp → List Asn → Prop}
    (hw : Wn c ops E ⟨none, .call { callee := .value (.func f), args := ⟨xs⟩, argTypes := ts }, ty, p, af, g⟩ true) (hc : ∀ args w, (callFunc f args).run c.P w = .ok (.enter f args) w)
    (hv : evs E xs = some vs) (ht : Tri c.P f vs R pre post pan) (hs : Split L pre F)
    (hp : ∀ ch R' L', R.le R' → pan ch R' L' → EJ c (Q (.panic ch)) E R' (L' ++ F))
    (h : ∀ v R' L', R.le R' → post v R' L' → RJ c ops Q rest E R' (L' ++ F)) :
    RJ c ops Q (⟨none, .call { callee := .value (.func f), args := ⟨xs⟩, argTypes := ts }, ty, p, af, g⟩ :: rest) E R L := by
  intro a w hf hsat
  unfold wpList
  rw [if_pos (hw a hf)]
  refine .inl ?_
  unfold Oper.wp
  rw [run_call hc (hf.evs hv)]
  simp only [Oper.upon]
  refine (ht _ _ _ (hs.sat hsat)).mono fun e w' ⟨R', L', hR, hw', hpost⟩ => ?_
  cases e with
  | returned v => exact h v R' L' hR hpost _ _ hf hw'
  | panicked ch => exact hp ch R' L' hR hpost _ _ hf hw'
  | outgrown => exact hpost.elim

/-! ### stores, new variables -/
/-- an operation that hands back a value and turns memory in one known way -/
theorem rj_run {o : Oper} {d : Nat} {v : Value} {L' : List Asn} (hw : Wn c ops E o true) (hd : o.dst = some d) (hn : Nat.blt d c.n = true)
    (hr : ∀ a w, Fr c.n E a → Sat c.σ R L w → ∃ w', (execOp a.eval o).run c.P w = .ok (.value v) w' ∧ Sat c.σ R L' w') (h : RJ c ops Q rest ((d, v) :: E) R L') : RJ c ops Q (o :: rest) E R L := by
  intro a w hf hs
  unfold wpList
  rw [if_pos (hw a hf)]
  refine .inl ?_
  obtain ⟨w', h1, h2⟩ := hr a w hf hs
  unfold Oper.wp
  rw [h1]
  simp only [Oper.upon, hd]
  exact h _ _ (hf.put hn v) h2
theorem rj_runs {o : Oper} {L' : List Asn} (hw : Wn c ops E o true) (hd : o.dst = none)
    (hr : ∀ a w, Fr c.n E a → Sat c.σ R L w → ∃ w', (execOp a.eval o).run c.P w = .ok .skip w' ∧ Sat c.σ R L' w') (h : RJ c ops Q rest E R L') : RJ c ops Q (o :: rest) E R L := by
  intro a w hf hs
  unfold wpList
  rw [if_pos (hw a hf)]
  refine .inl ?_
  obtain ⟨w', h1, h2⟩ := hr a w hf hs
  unfold Oper.wp
  rw [h1]
  simp only [Oper.upon, hd]
  exact h _ _ hf h2
/-- a new block whose number is not known -/
theorem rj_new {o : Oper} {d : Nat} {v : Nat → Value} {L' : Nat → List Asn} (hw : Wn c ops E o true) (hd : o.dst = some d) (hn : Nat.blt d c.n = true)
    (hr : ∀ a w, Fr c.n E a → Sat c.σ R L w → ∃ b w', (execOp a.eval o).run c.P w = .ok (.value (v b)) w' ∧ Sat c.σ R (L' b) w') (h : ∀ b, RJ c ops Q rest ((d, v b) :: E) R (L' b)) : RJ c ops Q (o :: rest) E R L := by
  intro a w hf hs
  unfold wpList
  rw [if_pos (hw a hf)]
  refine .inl ?_
  obtain ⟨b, w', h1, h2⟩ := hr a w hf hs
  unfold Oper.wp
  rw [h1]
  simp only [Oper.upon, hd]
  exact h b _ _ (hf.put hn _) h2
theorem storeCells_blk {P : Program} {σ : World} {et : TypeId} {b off : Nat} : ∀ (vs : List Value) (i : Nat) (l : List Value) (w : World), Sat σ R (blk b l et :: L) w → off + i + vs.length ≤ l.length → (∀ v ∈ vs, v.oneCell' = true) →
    ∃ w', (storeCells ⟨b, off, none⟩ vs i).run P w = .ok () w' ∧ Sat σ R (blk b (l.take (off + i) ++ vs ++ l.drop (off + i + vs.length)) et :: L) w' := by
  intro vs i l w hs hl h1
  have hr := run_storeCells_at P b off et vs i ⟨l⟩ w hs.blk_heap hl h1
  refine ⟨_, hr, ?_⟩
  exact hs.setRow _
theorem rj_store {x y : Operand} {t et : TypeId} {b off : Nat} {l l' : List Value} {M : List Asn} {v : Value} (hT : One c.P t)
    (hw : Wn c ops E ⟨none, .store t x y, ty, p, af, g⟩ true) (e1 : ev E x = some (.pointer (some ⟨b, off, none⟩))) (e2 : ev E y = some v) (hv : v.oneCell' = true)
    (f : Find (blk b l et) L M) (hl : Nat.blt off l.length = true) (he : setNth l off v = l') (h : RJ c ops Q rest E R (blk b l' et :: M)) : RJ c ops Q (⟨none, .store t x y, ty, p, af, g⟩ :: rest) E R L := by
  refine rj_runs hw rfl (fun a w hf hs => ?_) h
  have hs' := hs.find f
  have hlt : off < l.length := Nat.lt_of_lt_of_le (Nat.lt_succ_self _) (Nat.le_of_ble_eq_true hl)
  have hc : v.cells = #[v] := by cases v <;> first | rfl | simp [Value.oneCell'] at hv
  have hcell := hs'.blk_cell off
  have hfz := hs'.blk_frozen off
  have hn : nth l off = some l[off] := by rw [nth_eq]; simp [hlt]
  rw [hn] at hcell
  have hst : (store ⟨b, off, none⟩ v).run c.P w = .ok () (w.setCell ⟨b, off, none⟩ v) := by
    cases v <;> first | (simp [Value.oneCell'] at hv; done) | simp [store, Sem.run, hcell, hfz]
  have hset : Sat c.σ R (blk b l' et :: M) (w.setCell ⟨b, off, none⟩ v) := he ▸ hs'.blk_set v
  refine ⟨_, ?_, hset⟩
  simp [execOp, hf.ev e1, hf.ev e2, Instr.storeAt, Instr.sureAddr, storeVar, hT.2, hc, storeCells, add_mk, hst]
theorem rj_stores {x y : Operand} {t et : TypeId} {b off n : Nat} {l l' : List Value} {M : List Asn} {vs : List Value} (hT : Many c.P t n) (hn : vs.length = n)
    (hw : Wn c ops E ⟨none, .store t x y, ty, p, af, g⟩ true) (e1 : ev E x = some (.pointer (some ⟨b, off, none⟩))) (e2 : ev E y = some (.agg ⟨vs⟩)) (hv : ∀ v ∈ vs, v.oneCell' = true)
    (f : Find (blk b l et) L M) (hl : off + vs.length ≤ l.length) (he : l.take off ++ vs ++ l.drop (off + vs.length) = l') (h : RJ c ops Q rest E R (blk b l' et :: M)) : RJ c ops Q (⟨none, .store t x y, ty, p, af, g⟩ :: rest) E R L := by
  refine rj_runs hw rfl (fun a w hf hs => ?_) h
  obtain ⟨w', h1, h2⟩ := storeCells_blk (P := c.P) (off := off) vs 0 l w (hs.find f) (by simpa using hl) hv
  simp only [Nat.add_zero] at h2
  refine ⟨w', ?_, he ▸ h2⟩
  simp [execOp, hf.ev e1, hf.ev e2, Instr.storeAt, Instr.sureAddr, storeVar, hT.2, Value.cells, hn, h1]
theorem rj_box {d : Nat} {x : Operand} {t : TypeId} {v : Value} {l : List Value} (hw : Wn c ops E ⟨some d, .box t x, ty, p, af, g⟩ true) (hn : Nat.blt d c.n = true) (e : ev E x = some v) (hv : v.cells = ⟨l⟩)
    (h : ∀ b, RJ c ops Q rest ((d, .pointer (some ⟨b, 0, none⟩)) :: E) R (blk b l t :: L)) : RJ c ops Q (⟨some d, .box t x, ty, p, af, g⟩ :: rest) E R L := by
  refine rj_new (v := fun b => .pointer (some ⟨b, 0, none⟩)) (L' := fun b => blk b l t :: L) hw rfl hn (fun a w hf hs => ⟨w.heap.size, w.alloc (.cells ⟨l⟩ t (0, 0)), ?_, hs.alloc _⟩) h
  simp [execOp, hf.ev e, Instr.box, newVar, newRow, hv]
theorem rj_alloc {d : Nat} {t : TypeId} {z : Value} {l : List Value} (hw : Wn c ops E ⟨some d, .alloc t, ty, p, af, g⟩ true) (hn : Nat.blt d c.n = true) (hz : ∀ w, (zeroValue t).run c.P w = .ok z w) (hv : z.cells = ⟨l⟩)
    (h : ∀ b, RJ c ops Q rest ((d, .pointer (some ⟨b, 0, none⟩)) :: E) R (blk b l t :: L)) : RJ c ops Q (⟨some d, .alloc t, ty, p, af, g⟩ :: rest) E R L := by
  refine rj_new (v := fun b => .pointer (some ⟨b, 0, none⟩)) (L' := fun b => blk b l t :: L) hw rfl hn (fun a w hf hs => ⟨w.heap.size, w.alloc (.cells ⟨l⟩ t (0, 0)), ?_, hs.alloc _⟩) h
  simp [execOp, Instr.alloc, newVar, newRow, hv, hz]
end

/-! ### a body, from its head to its end -/
def envOf : Nat → List Value → Env
  | _, [] => []
  | i, v :: vs => (i, v) :: envOf (i + 1) vs
theorem lk_envOf : ∀ (vs : List Value) (i t : Nat) (v : Value), lk (envOf i vs) t = some v → i ≤ t ∧ vs[t - i]? = some v
  | [], _, _, _, h => by cases h
  | u :: vs, i, t, v, h => by
    simp only [envOf, lk] at h
    cases hb : Nat.beq i t with
    | true => rw [hb] at h; obtain rfl := Nat.eq_of_beq_eq_true hb; simp only [cond_true, Option.some.injEq] at h; subst h; simp
    | false =>
      rw [hb] at h
      have hne : i ≠ t := Nat.ne_of_beq_eq_false hb
      obtain ⟨h1, h2⟩ := lk_envOf vs (i + 1) t v h
      refine ⟨by omega, ?_⟩
      rw [show t - i = (t - (i + 1)) + 1 by omega]
      simpa using h2
theorem Fr.start {n : Nat} {args : List Value} (h : Nat.ble args.length n = true) : Fr n (envOf 0 args) { tmps := (⟨args⟩ : Array Value) ++ Array.replicate (n - (⟨args⟩ : Array Value).size) undef, defers := [] } := by
  have hle := Nat.le_of_ble_eq_true h
  refine ⟨by simp; omega, rfl, fun t v e => ?_⟩
  obtain ⟨_, h2⟩ := lk_envOf args 0 t v e
  simp only [Nat.sub_zero] at h2
  have hlt : t < args.length := by
    rcases Nat.lt_or_ge t args.length with k | k
    · exact k
    · rw [List.getElem?_eq_none k] at h2; cases h2
  rw [Array.getD_eq_getD_getElem?, Array.getElem?_append_left (by simpa using hlt)]
  simp [h2]
/-- what is asked at a body's end -/
def Ends (P : Program) (fn : Func) (σ : World) (R0 : Hp) (F : List Asn) (post : Value → Hp → List Asn → Prop) (pan : List PanicEntry → Hp → List Asn → Prop) : Exit → Act → World → Prop :=
  bodyPost P fn fun e w' => ∃ R' L', R0.le R' ∧ Sat σ R' (L' ++ F) w' ∧
    match e with
    | .returned v => post v R' L'
    | .panicked ch => pan ch R' L'
    | .outgrown => False
theorem tri_of {P : Program} {f n : Nat} {fn : Func} {body : Code} {args : List Value} {R : Hp} {L : List Asn} {post : Value → Hp → List Asn → Prop} {pan : List PanicEntry → Hp → List Asn → Prop}
    (hf : P.funcs[f]? = some fn) (hb : fn.body = some body) (hn : fn.ntmps = n) (ha : Nat.ble args.length n = true)
    (h : ∀ σ F (Q : Exit → Act → World → Prop), (∀ E R1 L1, EJ ⟨P, n, σ⟩ (Ends P fn σ R F post pan .ret) E R1 L1 → EJ ⟨P, n, σ⟩ (Q .ret) E R1 L1) → (∀ E R1 L1, EJ ⟨P, n, σ⟩ (Ends P fn σ R F post pan .normal) E R1 L1 → EJ ⟨P, n, σ⟩ (Q .normal) E R1 L1) →
      (∀ ch E R1 L1, EJ ⟨P, n, σ⟩ (Ends P fn σ R F post pan (.panic ch)) E R1 L1 → EJ ⟨P, n, σ⟩ (Q (.panic ch)) E R1 L1) → CJ ⟨P, n, σ⟩ body Q (envOf 0 args) R (L ++ F)) : Tri P f args R L post pan :=
  fun σ F w hs => calls_of_wp hf hb (by rw [hn]; exact h σ F _ (fun _ _ _ k => k) (fun _ _ _ k => k) (fun _ _ _ _ k => k) _ w (Fr.start ha) hs)
/-- a result, where it lies -/
def rvOf (a : Act) (r : ResultVar) : Sem Value :=
  match r with
  | .tmp t => pure (a.tmps.getD t undef)
  | .cell x t => do loadVar t (← asAddr (a.tmps.getD x undef))
def RV (c : Cx) (E : Env) (R : Hp) (L : List Asn) (r : ResultVar) (v : Value) : Prop :=
  ∀ (a : Act) (w : World), Fr c.n E a → Sat c.σ R L w → (rvOf a r).run c.P w = .ok v w
section
variable {c : Cx} {E : Env} {R R0 : Hp} {L F : List Asn} {fn : Func} {post : Value → Hp → List Asn → Prop} {pan : List PanicEntry → Hp → List Asn → Prop}
theorem rv_tmp {t : Nat} {v : Value} (e : lk E t = some v) : RV c E R L (.tmp t) v := fun a w hf _ => by
  have := hf.get t v e
  simp [rvOf, this]
inductive RVs (c : Cx) (E : Env) (R : Hp) (L : List Asn) : List ResultVar → List Value → Prop
  | nil : RVs c E R L [] []
  | cons {r : ResultVar} {v : Value} {rs : List ResultVar} {vs : List Value} : RV c E R L r v → RVs c E R L rs vs → RVs c E R L (r :: rs) (v :: vs)
def tupOf : List Value → Value
  | [v] => v
  | vs => .tuple ⟨vs⟩
theorem RVs.run {rs : List ResultVar} {vs : List Value} (h : RVs c E R L rs vs) {a : Act} {w : World} (hf : Fr c.n E a) (hs : Sat c.σ R L w) :
    (rs.mapM (rvOf a)).run c.P w = .ok vs w := by
  induction h with
  | nil => simp
  | cons hr _ ih =>
    have h1 := hr a w hf hs
    simp only [List.mapM_cons, Sem.run_bind, h1, Result.andThen_ok, ih, Sem.run_pure]
theorem ej_ret {rs : List ResultVar} {vs : List Value} (hr : fn.results = ⟨rs⟩) (hv : RVs c E R L rs vs) (R' : Hp) (L' : List Asn) (hR : R0.le R') (hRR : R' = R) (hS : Sub L (L' ++ F)) (hp : post (tupOf vs) R' L') :
    EJ c (Ends c.P fn c.σ R0 F post pan .ret) E R L := by
  intro a w hf hs
  refine ⟨hf.dfs, tupOf vs, ?_, R', L', hR, by rw [hRR]; exact hs.sub hS, hp⟩
  have := hv.run hf hs
  have e : results fn a.tmps = (do
      let us ← (⟨rs⟩ : Array ResultVar).mapM (rvOf a)
      pure (if h : us.size = 1 then us[0] else .tuple us)) := by unfold results; rw [hr]; rfl
  rw [e, show (⟨rs⟩ : Array ResultVar) = rs.toArray from rfl, List.mapM_toArray]
  simp only [map_eq_pure_bind, Sem.run_bind] at this ⊢
  rw [this]
  simp only [Result.andThen_ok, Sem.run_pure]
  congr 1
  cases vs with
  | nil => simp [tupOf]
  | cons v vs => cases vs with
    | nil => simp [tupOf]
    | cons u vs => simp [tupOf]
theorem ej_end {rs : List ResultVar} {vs : List Value} (hr : fn.results = ⟨rs⟩) (hv : RVs c E R L rs vs) (R' : Hp) (L' : List Asn) (hR : R0.le R') (hRR : R' = R) (hS : Sub L (L' ++ F)) (hp : post (tupOf vs) R' L') :
    EJ c (Ends c.P fn c.σ R0 F post pan .normal) E R L := ej_ret (c := c) (pan := pan) hr hv R' L' hR hRR hS hp
theorem ej_pan {ch : List PanicEntry} (R' : Hp) (L' : List Asn) (hR : R0.le R') (hRR : R' = R) (hS : Sub L (L' ++ F)) (hp : pan ch R' L') :
    EJ c (Ends c.P fn c.σ R0 F post pan (.panic ch)) E R L := fun _ _ hf hs => ⟨hf.dfs, R', L', hR, by rw [hRR]; exact hs.sub hS, hp⟩
end
end V
end Go.Proofs.Ytcgjlhhfldkdaaa
