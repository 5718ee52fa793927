/- Regions that draw their order: operations that only look may come whenever they like; the others come in one row. -/
import Derived.Test.YtcgjlhhfldkdaaaV6
import Derived.Orders
set_option linter.unusedSimpArgs false
set_option linter.unusedVariables false
namespace Go.Proofs.Ytcgjlhhfldkdaaa
open Go.RowKit
namespace V
/-- operation i waits for operation j -/
def ancB (ops : Array Oper) : Nat → Nat → Nat → Bool
  | 0, _, _ => false
  | k + 1, i, j => match ops[i]? with
    | none => false
    | some o => o.after.toList.any fun e => Region.binds .any e && (Nat.beq e.on j || ancB ops k e.on j)
def looksB (ops : Array Oper) (i : Nat) (j : Nat) : Bool :=
  match ops[i]?, ops[j]? with
  | some o, some u => match u.dst with
    | some d => (o.looksAt ops).contains d
    | none => false
  | _, _ => true
def sameDst (ops : Array Oper) (i j : Nat) : Bool :=
  match ops[i]?, ops[j]? with
  | some o, some u => match u.dst with
    | some d => o.dst == some d
    | none => false
  | _, _ => true
def noSel (ops : Array Oper) (i : Nat) : Bool :=
  match ops[i]? with
  | some o => match o.op with | .select _ _ => false | _ => true
  | none => false
def rowB (ops : Array Oper) : List Nat → Bool
  | i :: j :: l => ancB ops ops.size j i && rowB ops (j :: l)
  | _ => true
def pairB (ops : Array Oper) : List Nat → Bool
  | [] => true
  | i :: l => (l.all fun j => !looksB ops i j && !sameDst ops i j && !sameDst ops j i && (ancB ops ops.size j i || !looksB ops j i)) && pairB ops l
def lowB (ops : Array Oper) : Bool := (List.range ops.size).all fun i => match ops[i]? with
  | none => false
  | some o => o.after.toList.all fun e => !Region.binds .any e || Nat.blt e.on i
def mixTB (ops : Array Oper) (Fs Cs Ts : List Nat) : Bool :=
  lowB ops && ((List.range ops.size).all fun i => Fs.contains i || Cs.contains i || Ts.contains i) && Fs.Nodup && Cs.Nodup && Ts.Nodup &&
  (Fs.all fun i => !looksB ops i i) && (Fs.all fun i => Nat.blt i ops.size && !Cs.contains i && !Ts.contains i) && (Cs.all fun i => Nat.blt i ops.size && !Ts.contains i) && (Ts.all fun i => Nat.blt i ops.size) &&
  pairB ops Fs && rowB ops Cs && (Fs.all fun i => noSel ops i) && (Cs.all fun i => noSel ops i) &&
  (Fs.all fun i => Cs.all fun k => !looksB ops i k && !sameDst ops i k && !sameDst ops k i && (ancB ops ops.size k i || !looksB ops k i)) &&
  (Fs.all fun i => Ts.all fun k => ancB ops ops.size k i) && (Cs.all fun i => Ts.all fun k => ancB ops ops.size k i)

section
variable {c : Cx} {ops : Array Oper} {Q : Exit → Act → World → Prop} {R : Hp} {L : List Asn}
/-- one that only looks: its value, whatever lies beside -/
def FSpec (c : Cx) (ops : Array Oper) (R : Hp) (L : List Asn) (i : Nat) (E : Env) (v : Value) (E' : Env) : Prop :=
  ∃ o d, ops[i]? = some o ∧ o.dst = some d ∧ Nat.blt d c.n = true ∧ E' = (d, v) :: E ∧ ((Wn c ops E o true ∧ ∀ R', R.le R' → ∀ G, Yld c E R' (L ++ G) o v) ∨ (Wn c ops E o false ∧ v = undef))
def FJ (c : Cx) (ops : Array Oper) (R : Hp) (L : List Asn) (K : Env → Prop) : List Nat → Env → Prop
  | [], E => K E
  | i :: is, E => ∃ v E', FSpec c ops R L i E v E' ∧ FJ c ops R L K is E'
/-- one of the row: what it leaves beside what was there -/
def XJ (c : Cx) (ops : Array Oper) (L : List Asn) (K : Env → Hp → List Asn → Prop) : List Nat → Env → Hp → List Asn → Prop
  | [], E, R, G => K E R G
  | i :: is, E, R, G => ∃ o, ops[i]? = some o ∧ ∀ a w, Fr c.n E a → Sat c.σ R (L ++ G) w →
      if Region.wanted o (yielded ops a.tmps) then o.wp c.P a w (fun a' w' => ∃ u E' R' G', R.le R' ∧ a' = a.put o.dst u ∧ Fr c.n E' a' ∧ Sat c.σ R' (L ++ G') w' ∧ XJ c ops L K is E' R' G') (fun _ _ _ => False)
      else ∃ E' R' G', R.le R' ∧ Fr c.n E' (a.put o.dst undef) ∧ Sat c.σ R' (L ++ G') w ∧ XJ c ops L K is E' R' G'

/-- listed: whatever is, all that it waited for is -/
def Closed1 (ops : Array Oper) (listed : Array Bool) : Prop := ∀ i o, ops[i]? = some o → listed.getD i false = true → ∀ e ∈ o.after, Region.binds .any e = true → listed.getD e.on false = true
theorem anc_listed {listed : Array Bool} (hc : Closed1 ops listed) : ∀ (k i j : Nat), ancB ops k i j = true → (∀ o, ops[i]? = some o → ∀ e ∈ o.after, Region.binds .any e = true → listed.getD e.on false = true) → listed.getD j false = true := by
  intro k
  induction k with
  | zero => intro i j h; cases h
  | succ k ih =>
    intro i j h hi
    unfold ancB at h
    cases ho : ops[i]? with
    | none => rw [ho] at h; cases h
    | some o =>
      rw [ho] at h
      simp only [List.any_eq_true, Bool.and_eq_true, Bool.or_eq_true] at h
      obtain ⟨e, he, hb, h⟩ := h
      have hl := hi o ho e (by simpa using he) hb
      rcases h with h | h
      · rw [← Nat.eq_of_beq_eq_true h]; exact hl
      · exact ih e.on j h fun o' ho' e' he' hb' => hc e.on o' ho' hl e' he' hb'
/-- pending ones laid in -/
def virt (ops : Array Oper) (a : Act) : List (Nat × Value) → Act
  | [] => a
  | (i, v) :: l => (virt ops a l).put ((ops[i]?).bind (·.dst)) v
def dstAt (ops : Array Oper) (i : Nat) : Option Tmp := (ops[i]?).bind (·.dst)
/-- quiet at a frame -/
def QK (c : Cx) (ops : Array Oper) (R : Hp) (L : List Asn) (x : Nat × Value) (a : Act) : Prop :=
  ∃ o, ops[x.1]? = some o ∧ (∀ cs b, o.op ≠ .select cs b) ∧ ∀ R', R.le R' → ∀ G w, Sat c.σ R' (L ++ G) w → (Region.wanted o (yielded ops a.tmps) = true ∧ o.quietAt c.P a (Sat c.σ R' (L ++ G)) w x.2) ∨ (Region.wanted o (yielded ops a.tmps) = false ∧ x.2 = undef)
theorem not_looks {i j : Nat} {o : Oper} (ho : ops[i]? = some o) (h : looksB ops i j = false) : ∀ d, dstAt ops j = some d → d ∉ o.looksAt ops := by
  intro d hd hm
  unfold dstAt at hd
  unfold looksB at h
  cases hj : ops[j]? with
  | none => rw [hj] at hd; cases hd
  | some u =>
    rw [hj] at hd
    simp only [Option.bind_some] at hd
    rw [ho, hj] at h
    simp only [hd] at h
    have : (o.looksAt ops).contains d = true := by simpa using hm
    rw [this] at h; cases h
theorem not_same {i j : Nat} (hi : i < ops.size) (h : sameDst ops i j = false) : ∀ d, dstAt ops j = some d → dstAt ops i ≠ some d := by
  intro d hd hm
  unfold dstAt at hd hm
  unfold sameDst at h
  cases hj : ops[j]? with
  | none => rw [hj] at hd; cases hd
  | some u =>
    cases hii : ops[i]? with
    | none => rw [hii] at hm; cases hm
    | some o =>
      rw [hj] at hd; rw [hii] at hm
      simp only [Option.bind_some] at hd hm
      rw [hii, hj] at h
      simp only [hd, hm] at h
      simp at h
theorem QK.put {x : Nat × Value} {a : Act} {j : Nat} {v : Value} (h : looksB ops x.1 j = false) (q : QK c ops R L x a) : QK c ops R L x (a.put (dstAt ops j) v) := by
  obtain ⟨o, ho, hs, hq⟩ := q
  have hl := not_looks ho h
  refine ⟨o, ho, hs, fun R' hR G w hw => ?_⟩
  rw [wanted_put o a _ v hl]
  have := hq R' hR G w hw
  unfold Oper.quietAt at *
  rwa [execOp_put o hs a _ v hl]
theorem QK.unput {x : Nat × Value} {a : Act} {j : Nat} {v : Value} (h : looksB ops x.1 j = false) (q : QK c ops R L x (a.put (dstAt ops j) v)) : QK c ops R L x a := by
  obtain ⟨o, ho, hs, hq⟩ := q
  have hl := not_looks ho h
  refine ⟨o, ho, hs, fun R' hR G w hw => ?_⟩
  have := hq R' hR G w hw
  rw [wanted_put o a _ v hl] at this
  unfold Oper.quietAt at *
  rwa [execOp_put o hs a _ v hl] at this
theorem QK.unvirt {x : Nat × Value} {a : Act} : ∀ {p : List (Nat × Value)}, (∀ y ∈ p, looksB ops x.1 y.1 = false) → QK c ops R L x (virt ops a p) → QK c ops R L x a
  | [], _, q => q
  | y :: p, h, q => QK.unvirt (p := p) (fun z hz => h z (by simp [hz])) (QK.unput (h y (by simp)) q)
theorem virt_put {d : Option Tmp} {u : Value} : ∀ (p : List (Nat × Value)) (a : Act), (∀ y ∈ p, ∀ e, d = some e → dstAt ops y.1 ≠ some e) → virt ops (a.put d u) p = (virt ops a p).put d u
  | [], _, _ => rfl
  | (i, v) :: p, a, h => by
    simp only [virt]
    rw [virt_put p a (fun y hy => h y (by simp [hy]))]
    exact Act.put_comm _ u v (h (i, v) (by simp))
theorem virt_take {x : Nat × Value} : ∀ (p1 p2 : List (Nat × Value)) (a : Act), (∀ y ∈ p1 ++ p2, ∀ e, dstAt ops x.1 = some e → dstAt ops y.1 ≠ some e) → virt ops a (p1 ++ x :: p2) = virt ops (a.put (dstAt ops x.1) x.2) (p1 ++ p2)
  | [], p2, a, h => by
    obtain ⟨i, v⟩ := x
    simp only [List.nil_append, virt]
    rw [virt_put p2 a (fun y hy => h y (by simpa using hy))]
    rfl
  | (i, v) :: p1, p2, a, h => by
    simp only [List.cons_append, virt]
    rw [virt_take p1 p2 a (fun y hy => h y (by simp at hy ⊢; exact .inr hy))]
theorem upon_move {o : Oper} {V a : Act} {K K' : Act → World → Prop} {r : Result Next} (h : o.upon c.P V K' (fun _ _ _ => False) r) (hk : ∀ u w', K' (V.put o.dst u) w' → K (a.put o.dst u) w')
    (hd : ∀ (q : Deferred) w', ¬ K' (({ V with defers := q :: V.defers } : Act).put o.dst undef) w') : o.upon c.P a K Q r := by
  cases r with
  | ok n w' =>
    cases n <;> simp only [Oper.upon] at h ⊢ <;> first | exact hk _ _ h | exact (hd _ _ h).elim | exact h.elim | skip
    case enter f args =>
      refine h.mono fun e w'' hp => ?_
      cases e with
      | returned v => exact hk _ _ hp
      | panicked ch => exact hp.elim
      | outgrown => exact absurd hp (by simp [LetsOut])
    case row row args => exact h.mono fun v w'' hp => hk _ _ hp
  | halt x w' => cases x <;> simp only [Oper.upon] at h
theorem pairB_spec : ∀ {l : List Nat}, pairB ops l = true → ∀ {i j : Nat}, i ∈ l → j ∈ l → i ≠ j → (looksB ops i j = false ∨ ancB ops ops.size i j = true) ∧ sameDst ops i j = false
  | [], _, _, _, h, _, _ => by cases h
  | k :: l, h, i, j, hi, hj, hne => by
    simp only [pairB, Bool.and_eq_true, List.all_eq_true, Bool.not_eq_true', Bool.or_eq_true] at h
    obtain ⟨h1, h2⟩ := h
    rcases List.mem_cons.1 hi with rfl | hi'
    · rcases List.mem_cons.1 hj with rfl | hj'
      · exact absurd rfl hne
      · have := h1 j hj'
        exact ⟨.inl this.1.1.1, this.1.1.2⟩
    · rcases List.mem_cons.1 hj with rfl | hj'
      · have := h1 i hi'
        refine ⟨?_, this.1.2⟩
        rcases this.2 with h | h
        · exact .inr h
        · exact .inl h
      · exact pairB_spec h2 hi' hj' hne
theorem rowB_tail {i : Nat} {l : List Nat} (h : rowB ops (i :: l) = true) : rowB ops l = true := by
  cases l with
  | nil => rfl
  | cons j l => simp only [rowB, Bool.and_eq_true] at h; exact h.2
theorem rowB_pred : ∀ {l : List Nat} {i : Nat} {k : Nat}, rowB ops (k :: l) = true → i ∈ l → ∃ j, j ∈ k :: l ∧ ancB ops ops.size i j = true
  | [], _, _, _, h => by cases h
  | j :: l, i, k, h, hi => by
    simp only [rowB, Bool.and_eq_true] at h
    rcases List.mem_cons.1 hi with rfl | hi'
    · exact ⟨k, by simp, h.1⟩
    · obtain ⟨m, hm, ha⟩ := rowB_pred (k := j) h.2 hi'
      exact ⟨m, by simp only [List.mem_cons] at hm ⊢; exact .inr hm, ha⟩
theorem row_head {l : List Nat} {i : Nat} {listed : Array Bool} (h : rowB ops l = true) (hi : i ∈ l) (hu : ∀ j ∈ l, listed.getD j false = false)
    (ha : ∀ j, ancB ops ops.size i j = true → listed.getD j false = true) : ∃ l', l = i :: l' := by
  cases l with
  | nil => cases hi
  | cons k l =>
    rcases List.mem_cons.1 hi with rfl | hi'
    · exact ⟨l, rfl⟩
    · obtain ⟨j, hj, haj⟩ := rowB_pred h hi'
      have := ha j haj
      rw [hu j hj] at this; cases this
theorem exists_ready {listed : Array Bool} (hl : lowB ops = true) (hs : listed.size = ops.size) : ∀ i, i < ops.size → listed.getD i false = false → ∃ j, j ∈ Region.ready .any ops listed := by
  intro i
  induction i using Nat.strongRecOn with
  | _ i ih =>
    intro hi hu
    unfold lowB at hl
    rw [List.all_eq_true] at hl
    have h0 := hl i (by simpa using hi)
    have ho : ops[i]? = some ops[i] := by simp [hi]
    rw [ho] at h0
    simp only [List.all_eq_true, Bool.or_eq_true, Bool.not_eq_true'] at h0
    by_cases hall : ∀ e ∈ ops[i].after, Region.binds .any e = true → listed.getD e.on false = true
    · refine ⟨i, mem_ready.2 ⟨?_, _, ho, hall⟩⟩
      rw [Array.getD_eq_getD_getElem?] at hu ⊢
      rw [Array.getElem?_eq_getElem (by omega)] at hu ⊢
      simpa using hu
    · have ⟨e, h1⟩ := Classical.not_forall.1 hall
      have ⟨he, h2⟩ := Classical.not_forall.1 h1
      have ⟨hb, h3⟩ := Classical.not_forall.1 h2
      rcases h0 e (by simpa using he) with h | h
      · rw [hb] at h; cases h
      · have hlt : e.on < i := Nat.lt_of_lt_of_le (Nat.lt_succ_self _) (Nat.le_of_ble_eq_true h)
        exact ih e.on hlt (by omega) (by simpa using h3)
theorem set_getD {listed : Array Bool} {i j : Nat} (hi : i < listed.size) : (listed.setIfInBounds i true).getD j false = if j = i then true else listed.getD j false := by
  by_cases h : j = i
  · subst h
    rw [if_pos rfl, Array.getD_eq_getD_getElem?, Array.getElem?_setIfInBounds]
    simp [hi]
  · rw [if_neg h, Array.getD_eq_getD_getElem?, Array.getElem?_setIfInBounds_ne (Ne.symm h), ← Array.getD_eq_getD_getElem?]
theorem Closed1.set {listed : Array Bool} {i : Nat} (hc : Closed1 ops listed) (hs : listed.size = ops.size) (hr : i ∈ Region.ready .any ops listed) : Closed1 ops (listed.setIfInBounds i true) := by
  obtain ⟨h0, o, ho, hall⟩ := mem_ready.1 hr
  have hi : i < listed.size := by rw [hs]; exact (Array.getElem?_eq_some_iff.1 ho).1
  intro j u hj hl e he hb
  rw [set_getD hi] at hl ⊢
  split
  · rfl
  · by_cases hji : j = i
    · subst hji
      rw [ho] at hj; cases hj
      exact hall e he hb
    · rw [if_neg hji] at hl
      exact hc j u hj hl e he hb
theorem wanted_virt {o : Oper} {a : Act} : ∀ {p : List (Nat × Value)}, (∀ y ∈ p, ∀ d, dstAt ops y.1 = some d → d ∉ o.looksAt ops) → Region.wanted o (yielded ops (virt ops a p).tmps) = Region.wanted o (yielded ops a.tmps)
  | [], _ => rfl
  | (i, v) :: p, h => by
    simp only [virt]
    rw [show ((ops[i]?).bind (·.dst)) = dstAt ops i from rfl, wanted_put o _ _ v (h (i, v) (by simp))]
    exact wanted_virt (p := p) fun y hy => h y (by simp [hy])
theorem execOp_virt {o : Oper} (hs : ∀ cs b, o.op ≠ .select cs b) {a : Act} : ∀ {p : List (Nat × Value)}, (∀ y ∈ p, ∀ d, dstAt ops y.1 = some d → d ∉ o.looksAt ops) → execOp (virt ops a p).eval o = execOp a.eval o
  | [], _ => rfl
  | (i, v) :: p, h => by
    simp only [virt]
    rw [show ((ops[i]?).bind (·.dst)) = dstAt ops i from rfl, execOp_put o hs _ _ v (h (i, v) (by simp))]
    exact execOp_virt hs (p := p) fun y hy => h y (by simp [hy])
theorem noSel_spec {i : Nat} {o : Oper} (ho : ops[i]? = some o) (h : noSel ops i = true) : ∀ cs b, o.op ≠ .select cs b := by
  intro cs b he
  unfold noSel at h
  rw [ho] at h
  simp only [he] at h
  cases h
theorem rowB_app : ∀ {pre l : List Nat}, rowB ops (pre ++ l) = true → rowB ops l = true
  | [], _, h => h
  | i :: pre, l, h => rowB_app (pre := pre) (rowB_tail h)
def TK (c : Cx) (ops : Array Oper) (Q : Exit → Act → World → Prop) (R : Hp) (Ts : List Nat) (L : List Asn) (E : Env) : Prop :=
  ∀ fuel listed a w, listed.size = ops.size → Closed1 ops listed → (∀ j, j < ops.size → (listed.getD j false = false ↔ j ∈ Ts)) → Ts.length ≤ fuel → Fr c.n E a → Sat c.σ R L w → wpAny c.P .any ops Q fuel listed a w
def MixT (c : Cx) (ops : Array Oper) (Q : Exit → Act → World → Prop) (R : Hp) (L : List Asn) (Fs Cs Ts : List Nat) (fuel : Nat) (listed : Array Bool) (a : Act) (w : World) : Prop :=
  listed.size = ops.size ∧ Closed1 ops listed ∧
  ∃ (pend : List (Nat × Value)) (cs : List Nat) (E : Env) (R1 : Hp) (G : List Asn), R.le R1 ∧ (∀ x ∈ pend, x.1 ∈ Fs) ∧ (pend.map (·.1)).Nodup ∧ (∃ pre, Cs = pre ++ cs) ∧
      XJ c ops L (fun E R G => TK c ops Q R Ts (L ++ G) E) cs E R1 G ∧ Fr c.n E (virt ops a pend) ∧ Sat c.σ R1 (L ++ G) w ∧ (∀ x ∈ pend, QK c ops R L x (virt ops a pend)) ∧
      (∀ j, j < ops.size → (listed.getD j false = false ↔ j ∈ pend.map (·.1) ∨ j ∈ cs ∨ j ∈ Ts)) ∧ pend.length + cs.length + Ts.length ≤ fuel
theorem mixT_any {Fs Cs Ts : List Nat} (hB : mixTB ops Fs Cs Ts = true) : ∀ (fuel : Nat) (listed : Array Bool) (a : Act) (w : World), MixT c ops Q R L Fs Cs Ts fuel listed a w → wpAny c.P .any ops Q fuel listed a w := by
  simp only [mixTB, Bool.and_eq_true, List.all_eq_true, Bool.not_eq_true', Bool.or_eq_true, decide_eq_true_eq] at hB
  obtain ⟨⟨⟨⟨⟨⟨⟨⟨⟨⟨⟨⟨⟨⟨⟨hlow, hcover⟩, hFn⟩, hCn⟩, hTn⟩, hself⟩, hF⟩, hC⟩, hT⟩, hpair⟩, hrow⟩, hFs⟩, hCs⟩, hFC⟩, hFT⟩, hCT⟩ := hB
  have hFlt : ∀ i ∈ Fs, i < ops.size := fun i hi => Nat.lt_of_lt_of_le (Nat.lt_succ_self _) (Nat.le_of_ble_eq_true (hF i hi).1.1)
  have hClt : ∀ i ∈ Cs, i < ops.size := fun i hi => Nat.lt_of_lt_of_le (Nat.lt_succ_self _) (Nat.le_of_ble_eq_true (hC i hi).1)
  have hTlt : ∀ i ∈ Ts, i < ops.size := fun i hi => Nat.lt_of_lt_of_le (Nat.lt_succ_self _) (Nat.le_of_ble_eq_true (hT i hi))
  intro fuel
  induction fuel with
  | zero =>
    rintro listed a w ⟨hs, hc, pend, cs, E, R1, G, hR1, hp, hpn, _, hX, hE, hw, hq, hl, hf⟩
    have e1 := List.eq_nil_of_length_eq_zero (l := pend) (by omega)
    have e2 := List.eq_nil_of_length_eq_zero (l := cs) (by omega)
    subst e1 e2
    exact hX 0 listed a w hs hc (fun j hj => (hl j hj).trans (by simp)) (by simpa using hf) hE hw
  | succ fuel ih =>
    rintro listed a w ⟨hs, hc, pend, cs, E, R1, G, hR1, hp, hpn, ⟨pre, hpre⟩, hX, hE, hw, hq, hl, hf⟩
    by_cases hall : pend = [] ∧ cs = []
    · obtain ⟨rfl, rfl⟩ := hall
      exact hX (fuel + 1) listed a w hs hc (fun j hj => (hl j hj).trans (by simp)) (by simpa using hf) hE hw
    have hpu : ∀ y ∈ pend, listed.getD y.1 false = false := fun y hy => (hl _ (hFlt _ (hp y hy))).2 (.inl (List.mem_map.2 ⟨y, hy, rfl⟩))
    have hcsu : ∀ j ∈ cs, listed.getD j false = false := fun j h => (hl _ (hClt _ (by rw [hpre]; simp [h]))).2 (.inr (.inl h))
    refine ⟨fun hr => ?_, fun i hi => ?_⟩
    · exfalso
      have : ∃ j, j < ops.size ∧ listed.getD j false = false := by
        cases hpe : pend with
        | cons y p => exact ⟨y.1, hFlt _ (hp y (by rw [hpe]; simp)), hpu y (by rw [hpe]; simp)⟩
        | nil => cases hce : cs with
          | cons k p => exact ⟨k, hClt _ (by rw [hpre, hce]; simp), hcsu k (by rw [hce]; simp)⟩
          | nil => exact absurd ⟨hpe, hce⟩ hall
      obtain ⟨j, hj, hu⟩ := this
      obtain ⟨k, hk⟩ := exists_ready hlow hs j hj hu
      rw [hr] at hk; cases hk
    · obtain ⟨h0, o, ho, hdeps⟩ := mem_ready.1 hi
      have hilt : i < ops.size := (Array.getElem?_eq_some_iff.1 ho).1
      have hu : listed.getD i false = false := by
        rw [Array.getD_eq_getD_getElem?] at h0 ⊢
        rw [Array.getElem?_eq_getElem (by omega)] at h0 ⊢
        simpa using h0
      have hanc : ∀ j, ancB ops ops.size i j = true → listed.getD j false = true := fun j hj => anc_listed hc _ i j hj fun o' ho' => by rw [ho] at ho'; cases ho'; exact hdeps
      have hs' : (listed.setIfInBounds i true).size = ops.size := by simpa using hs
      have hc' : Closed1 ops (listed.setIfInBounds i true) := hc.set hs hi
      have hgd : ∀ j, (listed.setIfInBounds i true).getD j false = if j = i then true else listed.getD j false := fun j => set_getD (by omega)
      have hrow' : rowB ops cs = true := by rw [hpre] at hrow; exact rowB_app hrow
      · skip
        by_cases hip : i ∈ pend.map (·.1)
        · -- one that only looks
          obtain ⟨x, hx, rfl⟩ := List.mem_map.1 hip
          obtain ⟨p1, p2, rfl⟩ := List.append_of_mem hx
          have hxF := hp x hx
          have hnot : ∀ y ∈ p1 ++ p2, y.1 ≠ x.1 := by
            intro y hy he
            simp only [List.map_append, List.map_cons] at hpn
            have hn := List.nodup_append.1 hpn
            rcases List.mem_append.1 hy with h | h
            · exact hn.2.2 y.1 (List.mem_map.2 ⟨y, h, rfl⟩) x.1 (by simp) he
            · have := (List.nodup_cons.1 hn.2.1).1
              exact this (List.mem_map.2 ⟨y, h, he⟩)
          have hsub : ∀ y ∈ p1 ++ p2, y ∈ p1 ++ x :: p2 := fun y hy => by simp at hy ⊢; rcases hy with h | h <;> simp [h]
          have hlook : ∀ y ∈ p1 ++ x :: p2, looksB ops x.1 y.1 = false := by
            intro y hy
            by_cases he : y.1 = x.1
            · rw [he]; exact hself _ hxF
            · rcases (pairB_spec hpair hxF (hp y hy) (Ne.symm he)).1 with h | h
              · exact h
              · have := hanc _ h; rw [hpu y hy] at this; cases this
          have hqa : QK c ops R L x a := QK.unvirt hlook (hq x hx)
          obtain ⟨o', ho', hsel, hqq⟩ := hqa
          rw [ho] at ho'; cases ho'
          have hvt := virt_take (ops := ops) (x := x) p1 p2 a fun y hy e he => not_same (hFlt _ (hp y (hsub y hy))) (pairB_spec hpair (hp y (hsub y hy)) hxF (hnot y hy)).2 e he
          have next : ∀ w', Sat c.σ R1 (L ++ G) w' → wpAny c.P .any ops Q fuel (listed.setIfInBounds x.1 true) (a.put o.dst x.2) w' := by
            intro w' hw'
            have hod : o.dst = dstAt ops x.1 := by simp [dstAt, ho]
            rw [hod]
            refine ih _ _ _ ⟨hs', hc', p1 ++ p2, cs, E, R1, G, hR1, fun y hy => hp y (hsub y hy), ?_, ⟨pre, hpre⟩, hX, by rw [← hvt]; exact hE, hw', fun y hy => by rw [← hvt]; exact hq y (hsub y hy), fun j hj => ?_, ?_⟩
            · simp only [List.map_append, List.map_cons] at hpn ⊢
              have hn := List.nodup_append.1 hpn
              exact List.nodup_append.2 ⟨hn.1, (List.nodup_cons.1 hn.2.1).2, fun u hu v hv => hn.2.2 u hu v (by simp [hv])⟩
            · rw [hgd]
              by_cases hji : j = x.1
              · rw [if_pos hji]
                simp only [Bool.true_eq_false, false_iff, not_or]
                subst hji
                refine ⟨fun h => ?_, fun h => ?_, fun h => ?_⟩
                · obtain ⟨y, hy, he⟩ := List.mem_map.1 h; exact hnot y hy he
                · have := (hF _ hxF).1.2; rw [hpre] at this; simp [h] at this
                · have := (hF _ hxF).2; simp [h] at this
              · rw [if_neg hji, hl j hj]
                simp only [List.map_append, List.map_cons, List.mem_append, List.mem_cons]
                constructor
                · rintro ((h | h | h) | h) <;> first | exact absurd h hji | simp [h]
                · rintro ((h | h) | h) <;> simp [h]
            · simp at hf ⊢; omega
          unfold wpOp
          rw [ho]
          simp only
          cases hwt : Region.wanted o (yielded ops a.tmps) with
          | true =>
            rw [if_pos rfl]
            refine .inl (Oper.wp_of_quiet (C := Sat c.σ R1 (L ++ G)) (K := fun a' => a' = a.put o.dst x.2) hw (fun a' w' hw' ha' => by subst ha'; exact next w' hw') ⟨x.2, fun w' hw' => ?_, rfl⟩)
            rcases hqq R1 hR1 G w' hw' with h | h
            · exact h.2
            · rw [hwt] at h; cases h.1
          | false =>
            rw [if_neg (by decide)]
            rcases hqq R1 hR1 G w hw with h | h
            · rw [hwt] at h; cases h.1
            · have := next w hw; rw [h.2] at this; exact this
        · have hmem : i ∈ cs := by
            rcases (hl i hilt).1 hu with h | h | h
            · exact absurd h hip
            · exact h
            · exfalso
              cases hpe : pend with
              | cons y p => have := hanc _ (hFT _ (hp y (by rw [hpe]; simp)) i h); rw [hpu y (by rw [hpe]; simp)] at this; cases this
              | nil => cases hce : cs with
                | cons k p => have := hanc _ (hCT k (by rw [hpre, hce]; simp) i h); rw [hcsu k (by rw [hce]; simp)] at this; cases this
                | nil => exact absurd ⟨hpe, hce⟩ hall
          obtain ⟨l', hl'⟩ := row_head hrow' hmem hcsu hanc
          cases cs with
          | nil => cases hmem
          | cons k cs' =>
            simp only [List.cons.injEq] at hl'
            obtain ⟨rfl, _⟩ := hl'
            have hkC : k ∈ Cs := by rw [hpre]; simp
            have hlk : ∀ y ∈ pend, ∀ d, dstAt ops y.1 = some d → d ∉ o.looksAt ops := by
              intro y hy
              refine not_looks ho ?_
              rcases (hFC _ (hp y hy) k hkC).2 with h | h
              · have := hanc _ h; rw [hpu y hy] at this; cases this
              · exact h
            have hsel := noSel_spec ho (hCs k hkC)
            simp only [XJ] at hX
            obtain ⟨o', ho', hstep⟩ := hX
            rw [ho] at ho'; cases ho'
            have hst := hstep _ w hE hw
            rw [wanted_virt hlk] at hst
            have hod : o.dst = dstAt ops k := by simp [dstAt, ho]
            have hvp : ∀ u, virt ops (a.put o.dst u) pend = (virt ops a pend).put o.dst u := fun u => virt_put pend a fun y hy e he => by
              rw [hod] at he
              exact not_same (hFlt _ (hp y hy)) ((hFC _ (hp y hy) k hkC).1.1.2) e he
            have next : ∀ u w' E' R2 G', R1.le R2 → Fr c.n E' ((virt ops a pend).put o.dst u) → Sat c.σ R2 (L ++ G') w' → XJ c ops L (fun E R G => TK c ops Q R Ts (L ++ G) E) cs' E' R2 G' →
                wpAny c.P .any ops Q fuel (listed.setIfInBounds k true) (a.put o.dst u) w' := by
              intro u w' E' R2 G' hle hE' hw' hX'
              refine ih _ _ _ ⟨hs', hc', pend, cs', E', R2, G', Hp.le_trans hR1 hle, hp, hpn, ⟨pre ++ [k], by rw [hpre]; simp⟩, hX', by rw [hvp]; exact hE', hw', fun y hy => ?_, fun j hj => ?_, ?_⟩
              · rw [hvp, hod]
                exact QK.put ((hFC _ (hp y hy) k hkC).1.1.1) (hq y hy)
              · rw [hgd]
                by_cases hji : j = k
                · rw [if_pos hji]
                  simp only [Bool.true_eq_false, false_iff, not_or]
                  subst hji
                  refine ⟨hip, fun h => ?_, fun h => ?_⟩
                  · rw [hpre] at hCn
                    have hn := (List.nodup_append.1 hCn).2.1
                    exact (List.nodup_cons.1 hn).1 h
                  · have := (hC _ hkC).2; simp [h] at this
                · rw [if_neg hji, hl j hj]
                  simp only [List.mem_cons]
                  constructor
                  · rintro (h | (h | h) | h) <;> first | exact absurd h hji | simp [h]
                  · rintro (h | h | h) <;> simp [h]
              · simp at hf ⊢; omega
            unfold wpOp
            rw [ho]
            simp only
            cases hwt : Region.wanted o (yielded ops a.tmps) with
            | true =>
              rw [hwt, if_pos rfl] at hst
              rw [if_pos rfl]
              refine .inl ?_
              unfold Oper.wp at hst ⊢
              rw [execOp_virt hsel hlk] at hst
              refine upon_move hst ?_ ?_
              · rintro u w' ⟨u', E', R2, G', hle, he, h1, h2, h3⟩
                exact next u w' E' R2 G' hle h1 h2 h3
              · rintro q w' ⟨u', E', R2, G', hle, he, h1, h2, h3⟩
                have := h1.dfs
                cases hd2 : o.dst <;> simp [Act.put, hd2] at this
            | false =>
              rw [hwt, if_neg (by decide)] at hst
              rw [if_neg (by decide)]
              obtain ⟨E', R2, G', hle, h1, h2, h3⟩ := hst
              exact next undef w E' R2 G' hle h1 h2 h3
theorem row_any (hlow : lowB ops = true) : ∀ (ts : List Nat) (fuel : Nat) (listed : Array Bool) (a : Act) (w : World), rowB ops ts = true → ts.Nodup → (∀ j ∈ ts, j < ops.size) → listed.size = ops.size → Closed1 ops listed →
    (∀ j, j < ops.size → (listed.getD j false = false ↔ j ∈ ts)) → ts.length ≤ fuel → wpOps c.P ops Q ts a w → wpAny c.P .any ops Q fuel listed a w
  | [], fuel, listed, a, w, _, _, _, hs, _, hl, _, hW => by
    refine wpAny_done ?_ hW fuel
    cases hr : Region.ready .any ops listed with
    | nil => rfl
    | cons j l =>
      have hj : j ∈ Region.ready .any ops listed := by rw [hr]; simp
      obtain ⟨h0, o, ho, _⟩ := mem_ready.1 hj
      have hlt := (Array.getElem?_eq_some_iff.1 ho).1
      have hu : listed.getD j false = false := by
        rw [Array.getD_eq_getD_getElem?] at h0 ⊢
        rw [Array.getElem?_eq_getElem (by omega)] at h0 ⊢
        simpa using h0
      have := (hl j hlt).1 hu
      cases this
  | k :: ts, fuel, listed, a, w, hrow, hnd, hlt, hs, hc, hl, hf, hW => by
    obtain ⟨fuel, rfl⟩ : ∃ q, fuel = q + 1 := ⟨fuel - 1, by simp at hf; omega⟩
    refine ⟨fun hr => ?_, fun i hi => ?_⟩
    · obtain ⟨q, hq⟩ := exists_ready hlow hs k (hlt k (by simp)) ((hl k (hlt k (by simp))).2 (by simp))
      rw [hr] at hq; cases hq
    · obtain ⟨h0, o, ho, hdeps⟩ := mem_ready.1 hi
      have hilt : i < ops.size := (Array.getElem?_eq_some_iff.1 ho).1
      have hu : listed.getD i false = false := by
        rw [Array.getD_eq_getD_getElem?] at h0 ⊢
        rw [Array.getElem?_eq_getElem (by omega)] at h0 ⊢
        simpa using h0
      have hanc : ∀ j, ancB ops ops.size i j = true → listed.getD j false = true := fun j hj => anc_listed hc _ i j hj fun o' ho' => by rw [ho] at ho'; cases ho'; exact hdeps
      obtain ⟨l', hl'⟩ := row_head hrow ((hl i hilt).1 hu) (fun j hj => (hl j (hlt j hj)).2 hj) hanc
      simp only [List.cons.injEq] at hl'
      obtain ⟨rfl, rfl⟩ := hl'
      rw [wpOps_cons] at hW
      refine wpOp_mono (fun a' w' h => row_any hlow ts fuel _ a' w' (rowB_tail hrow) (List.nodup_cons.1 hnd).2 (fun j hj => hlt j (by simp [hj])) (by simpa using hs) (hc.set hs hi) (fun j hj => ?_) (by simpa using hf) h) hW
      rw [set_getD (by omega)]
      by_cases hji : j = k
      · rw [if_pos hji]
        subst hji
        simp [(List.nodup_cons.1 hnd).1]
      · rw [if_neg hji, hl j hj]
        simp [hji]
end
section
variable {c : Cx} {l : List Oper} {Q : Exit → Act → World → Prop} {R : Hp} {L : List Asn} {E : Env}
def nthO : List Oper → Nat → Option Oper
  | [], _ => none
  | o :: _, 0 => some o
  | _ :: l, n + 1 => nthO l n
theorem nthO_eq (l : List Oper) : ∀ n, nthO l n = l[n]? := by
  induction l with
  | nil => intro n; simp [nthO]
  | cons x l ih => intro n; cases n with | zero => simp [nthO] | succ n => simp [nthO, ih]
def picks (l : List Oper) : List Nat → Option (List Oper)
  | [] => some []
  | i :: is => match nthO l i, picks l is with
    | some o, some os => some (o :: os)
    | _, _ => none
theorem wpOps_picks {P : Program} : ∀ {is : List Nat} {os : List Oper}, picks l is = some os → ∀ {a : Act} {w : World}, wpList P l.toArray Q os a w → wpOps P l.toArray Q is a w
  | [], os, h, a, w, hw => by simp only [picks, Option.some.injEq] at h; subst h; exact hw
  | i :: is, os, h, a, w, hw => by
    simp only [picks] at h
    split at h
    · rename_i o os' h1 h2
      simp only [Option.some.injEq] at h; subst h
      rw [nthO_eq] at h1
      have ho : l.toArray[i]? = some o := by simpa using h1
      simp only [wpOps, ho]
      have ih : ∀ a w, wpList P l.toArray Q os' a w → wpOps P l.toArray Q is a w := fun a w => wpOps_picks h2
      simp only [wpList] at hw
      split
      · rename_i hwt
        rw [if_pos hwt] at hw
        exact hw.imp (Oper.wp_mono ih) id
      · rename_i hwt
        rw [if_neg hwt] at hw
        exact ih _ _ hw
    · cases h
theorem nodup_len : ∀ (n : Nat) (l : List Nat), l.Nodup → (∀ x ∈ l, x < n) → l.length ≤ n
  | 0, l, _, h => by
    cases l with
    | nil => simp
    | cons x l => exact absurd (h x (by simp)) (by omega)
  | n + 1, l, hn, h => by
    by_cases hm : n ∈ l
    · have := nodup_len n (l.erase n) (hn.erase n) fun x hx => by
        have h1 := h x (List.mem_of_mem_erase hx)
        have h2 : x ≠ n := fun e => by subst e; exact (List.Nodup.not_mem_erase hn) hx
        omega
      rw [List.length_erase_of_mem hm] at this
      omega
    · have := nodup_len n l hn fun x hx => by
        have h1 := h x hx
        have h2 : x ≠ n := fun e => by subst e; exact hm hx
        omega
      omega
/-- a region that draws: Fs only look, Cs come in a row, then a tail -/
theorem cj_mixk {id : Nat} (Fs Cs Ts : List Nat) (G0 : List Asn) {L0 : List Asn} {KK : Env → Hp → List Asn → Prop} (hL : Sub L0 (L ++ G0)) (hm : c.P.follows .mixedOrders = true) (hB : mixTB l.toArray Fs Cs Ts = true)
    (hK : ∀ E R G, KK E R G → TK c l.toArray Q R Ts (L ++ G) E)
    (h : FJ c l.toArray R L (fun E' => XJ c l.toArray L KK Cs E' R G0) Fs E) : CJ c (.region id l.toArray true) Q E R L0 := by
  intro a w hf hs0
  have hs := hs0.sub hL
  refine wp_region_any hm (mixT_any (Q := Q) (R := R) (L := L) hB _ _ _ _ ?_)
  have hB' := hB
  simp only [mixTB, Bool.and_eq_true, List.all_eq_true, Bool.not_eq_true', Bool.or_eq_true, decide_eq_true_eq] at hB'
  obtain ⟨⟨⟨⟨⟨⟨⟨⟨⟨⟨⟨⟨⟨⟨⟨hlow, hcover⟩, hFn⟩, hCn⟩, hTn⟩, hself⟩, hF⟩, hC⟩, hT⟩, hpair⟩, hrow⟩, hFs⟩, hCs⟩, hFC⟩, hFT⟩, hCT⟩ := hB'
  -- the values of those that only look
  have key : ∀ (Fs : List Nat) (a : Act) (E : Env), (∀ i ∈ Fs, looksB l.toArray i i = false) → (∀ i ∈ Fs, noSel l.toArray i = true) → pairB l.toArray Fs = true → Fr c.n E a →
      FJ c l.toArray R L (fun E' => XJ c l.toArray L KK Cs E' R G0) Fs E →
      ∃ (pend : List (Nat × Value)) (E' : Env), pend.map (·.1) = Fs ∧ Fr c.n E' (virt l.toArray a pend) ∧ (∀ x ∈ pend, QK c l.toArray R L x (virt l.toArray a pend)) ∧ XJ c l.toArray L KK Cs E' R G0 := by
    intro Fs
    induction Fs with
    | nil => intro a E _ _ _ hf h; exact ⟨[], E, rfl, hf, fun x hx => (by cases hx), h⟩
    | cons i is ih =>
      intro a E hself hsel hpair hf h
      obtain ⟨v, E1, ⟨o, d, ho, hd, hn, rfl, hspec⟩, hrest⟩ := h
      have hpair' := hpair
      simp only [pairB, Bool.and_eq_true, List.all_eq_true, Bool.not_eq_true', Bool.or_eq_true] at hpair'
      have hda : dstAt l.toArray i = some d := by unfold dstAt; rw [ho]; exact hd
      have hilt : i < l.toArray.size := (Array.getElem?_eq_some_iff.1 ho).1
      obtain ⟨pend, E', e1, e2, e3, e4⟩ := ih (a.put (some d) v) _ (fun j hj => hself j (by simp [hj])) (fun j hj => hsel j (by simp [hj])) hpair'.2 (hf.put hn v) hrest
      have hmem : ∀ y ∈ pend, y.1 ∈ is := fun y hy => by rw [← e1]; exact List.mem_map.2 ⟨y, hy, rfl⟩
      have hvt : virt l.toArray a ((i, v) :: pend) = virt l.toArray (a.put (some d) v) pend := by
        have := virt_take (ops := l.toArray) (x := (i, v)) [] pend a fun y hy e he => by
          simp only [List.nil_append] at hy
          exact not_same (by
            have := hmem y hy
            rw [← e1] at this
            obtain ⟨z, hz, hze⟩ := List.mem_map.1 this
            obtain ⟨o', ho', _⟩ := e3 z hz
            rw [← hze]
            exact (Array.getElem?_eq_some_iff.1 ho').1) (hpair'.1 y.1 (hmem y hy)).1.2 e he
        simpa [hda] using this
      refine ⟨(i, v) :: pend, E', by simp [e1], by rw [hvt]; exact e2, fun x hx => ?_, e4⟩
      rw [hvt]
      rcases List.mem_cons.1 hx with rfl | hx
      · have q0 : QK c l.toArray R L (i, v) a := ⟨o, ho, noSel_spec ho (hsel i (by simp)), fun R' hR G w hw => by
          rcases hspec with ⟨hw1, hy⟩ | ⟨hw1, hy⟩
          · exact .inl ⟨hw1 a hf, hy R' hR G a w hf hw⟩
          · exact .inr ⟨hw1 a hf, hy⟩⟩
        have q1 : QK c l.toArray R L (i, v) (a.put (dstAt l.toArray i) v) := QK.put (hself i (by simp)) q0
        rw [hda] at q1
        have : ∀ (p : List (Nat × Value)) (a : Act), (∀ y ∈ p, looksB l.toArray i y.1 = false) → QK c l.toArray R L (i, v) a → QK c l.toArray R L (i, v) (virt l.toArray a p) := by
          intro p
          induction p with
          | nil => intro a _ q; exact q
          | cons y p ihp => intro a hp q; exact QK.put (hp y (by simp)) (ihp a (fun z hz => hp z (by simp [hz])) q)
        exact this pend _ (fun y hy => (hpair'.1 y.1 (hmem y hy)).1.1.1) q1
      · exact e3 x hx
  obtain ⟨pend, E', e1, e2, e3, e4⟩ := key Fs a E hself hFs hpair hf h
  have hmono : ∀ (cs : List Nat) (E : Env) (R : Hp) (G : List Asn), XJ c l.toArray L KK cs E R G → XJ c l.toArray L (fun E R G => TK c l.toArray Q R Ts (L ++ G) E) cs E R G := by
    intro cs
    induction cs with
    | nil => intro E R G h; exact hK E R G h
    | cons i is ih =>
      intro E R G h
      obtain ⟨o, ho, hst⟩ := h
      refine ⟨o, ho, fun a w ha hw => ?_⟩
      have := hst a w ha hw
      split
      · rename_i hwt
        rw [if_pos hwt] at this
        exact Oper.wp_mono (fun a' w' ⟨u, E', R', G', hle, h1, h2, h3, h4⟩ => ⟨u, E', R', G', hle, h1, h2, h3, ih _ _ _ h4⟩) this
      · rename_i hwt
        rw [if_neg hwt] at this
        obtain ⟨E', R', G', hle, h1, h2, h3⟩ := this
        exact ⟨E', R', G', hle, h1, h2, ih _ _ _ h3⟩
  have hrep : ∀ j, (Array.replicate l.toArray.size false).getD j false = false := fun j => by
    rw [Array.getD_eq_getD_getElem?, Array.getElem?_replicate]; split <;> rfl
  refine ⟨by simp, fun i o _ hl => (by rw [hrep] at hl; cases hl), pend, Cs, E', R, G0, Hp.le_refl R, fun x hx => by rw [← e1]; exact List.mem_map.2 ⟨x, hx, rfl⟩, by rw [e1]; exact hFn, ⟨[], rfl⟩, hmono _ _ _ _ e4, e2, hs.drew, e3, fun j hj => ?_, ?_⟩
  · rw [hrep, e1]
    simp only [true_iff]
    have := hcover j (by simpa using hj)
    simp only [List.contains_iff_mem] at this
    rcases this with (h | h) | h <;> simp [h]
  · have hc : (Fs ++ Cs ++ Ts).length ≤ l.toArray.size := by
      have hnd : (Fs ++ Cs ++ Ts).Nodup := by
        rw [List.nodup_append]
        refine ⟨List.nodup_append.2 ⟨hFn, hCn, fun u hu v hv he => ?_⟩, hTn, fun u hu v hv he => ?_⟩
        · subst he; have := (hF u hu).1.2; simp [hv] at this
        · subst he
          rcases List.mem_append.1 hu with h | h
          · have := (hF u h).2; simp [hv] at this
          · have := (hC u h).2; simp [hv] at this
      have hlt : ∀ x ∈ Fs ++ Cs ++ Ts, x ∈ List.range l.toArray.size := by
        intro x hx
        rw [List.mem_range]
        simp only [List.mem_append] at hx
        rcases hx with (h | h) | h
        · exact Nat.lt_of_lt_of_le (Nat.lt_succ_self _) (Nat.le_of_ble_eq_true (hF x h).1.1)
        · exact Nat.lt_of_lt_of_le (Nat.lt_succ_self _) (Nat.le_of_ble_eq_true (hC x h).1)
        · exact Nat.lt_of_lt_of_le (Nat.lt_succ_self _) (Nat.le_of_ble_eq_true (hT x h))
      exact nodup_len _ _ hnd fun x hx => by simpa using hlt x hx
    have hl : pend.length = Fs.length := by rw [← e1]; simp
    simp at hc
    rw [hl]
    simp
    omega
theorem cj_mixg {id : Nat} (Fs Cs Ts : List Nat) (G0 : List Asn) {L0 : List Asn} {tl : List Oper} (hL : Sub L0 (L ++ G0)) (hm : c.P.follows .mixedOrders = true) (hB : mixTB l.toArray Fs Cs Ts = true) (hr : rowB l.toArray Ts = true) (ht : picks l Ts = some tl)
    (h : FJ c l.toArray R L (fun E' => XJ c l.toArray L (fun E R G => RJ c l.toArray Q tl E R (L ++ G)) Cs E' R G0) Fs E) : CJ c (.region id l.toArray true) Q E R L0 := by
  have hB' := hB
  simp only [mixTB, Bool.and_eq_true, List.all_eq_true, Bool.not_eq_true', Bool.or_eq_true, decide_eq_true_eq] at hB'
  obtain ⟨⟨⟨⟨⟨⟨⟨⟨⟨⟨⟨⟨⟨⟨⟨hlow, hcover⟩, hFn⟩, hCn⟩, hTn⟩, hself⟩, hF⟩, hC⟩, hT⟩, hpair⟩, hrow⟩, hFs⟩, hCs⟩, hFC⟩, hFT⟩, hCT⟩ := hB'
  refine cj_mixk (KK := fun E R G => RJ c l.toArray Q tl E R (L ++ G)) Fs Cs Ts G0 hL hm hB (fun E R G h fuel listed a w hs hc hl hn hf hsat => ?_) h
  exact row_any hlow Ts fuel listed a w hr hTn (fun j hj => Nat.lt_of_lt_of_le (Nat.lt_succ_self _) (Nat.le_of_ble_eq_true (hT j hj))) hs hc hl hn (wpOps_picks ht (h a w hf hsat))
theorem cj_mix {id : Nat} (Fs Cs Ts : List Nat) {tl : List Oper} (hm : c.P.follows .mixedOrders = true) (hB : mixTB l.toArray Fs Cs Ts = true) (hr : rowB l.toArray Ts = true) (ht : picks l Ts = some tl)
    (h : FJ c l.toArray R L (fun E' => XJ c l.toArray L (fun E R G => RJ c l.toArray Q tl E R (L ++ G)) Cs E' R []) Fs E) : CJ c (.region id l.toArray true) Q E R L :=
  cj_mixg Fs Cs Ts [] (by rw [List.append_nil]; exact .refl _) hm hB hr ht h
theorem Find.app {A : Asn} {L M : List Asn} (f : Find A L M) (X : List Asn) : Find A (L ++ X) (M ++ X) := by
  induction f with
  | head L => exact .head _
  | tail _ ih => exact .tail ih
theorem Split.app {L pre F : List Asn} (s : Split L pre F) (X : List Asn) : Split (L ++ X) pre (F ++ X) := by
  induction s with
  | nil L => exact .nil _
  | cons f _ ih => exact .cons (f.app X) ih
theorem Find.mid (A : Asn) : ∀ (M L : List Asn), Find A (M ++ A :: L) (M ++ L)
  | [], L => .head _
  | B :: M, L => .tail (Find.mid A M L)
theorem stars_swap : ∀ (L M : List Asn) {h : Hp}, stars (L ++ M) h → stars (M ++ L) h
  | [], M, h, s => by simpa using s
  | A :: L, M, h, s => by
    obtain ⟨h1, h2, a, b, c, d, e⟩ := s
    exact (Find.mid A M L).back ⟨h1, h2, a, b, c, d, stars_swap L M e⟩
theorem Sat.swap {σ : World} {R : Hp} {L M : List Asn} {w : World} (s : Sat σ R (L ++ M) w) : Sat σ R (M ++ L) w :=
  ⟨s.os, s.tape, s.output, s.ro, let ⟨g, a, b, c⟩ := s.own; ⟨g, a, b, stars_swap L M c⟩⟩
/-! the steps -/
theorem fj_val {K : Env → Prop} {i d : Nat} {is : List Nat} {o : Oper} {v : Value} (ho : nthO l i = some o) (hd : o.dst = some d) (hn : Nat.blt d c.n = true) (hw : Wn c l.toArray E o true) (y : ∀ R', R.le R' → ∀ G, Yld c E R' (L ++ G) o v)
    (h : FJ c l.toArray R L K is ((d, v) :: E)) : FJ c l.toArray R L K (i :: is) E :=
  ⟨v, _, ⟨o, d, by rw [nthO_eq] at ho; simpa using ho, hd, hn, rfl, .inl ⟨hw, y⟩⟩, h⟩
theorem fj_skip {K : Env → Prop} {i d : Nat} {is : List Nat} {o : Oper} (ho : nthO l i = some o) (hd : o.dst = some d) (hn : Nat.blt d c.n = true) (hw : Wn c l.toArray E o false)
    (h : FJ c l.toArray R L K is ((d, undef) :: E)) : FJ c l.toArray R L K (i :: is) E :=
  ⟨undef, _, ⟨o, d, by rw [nthO_eq] at ho; simpa using ho, hd, hn, rfl, .inr ⟨hw, rfl⟩⟩, h⟩
theorem fj_nil {K : Env → Prop} (h : K E) : FJ c l.toArray R L K [] E := h
theorem fj_part {K : Env → Prop} {is : List Nat} (t : Nat) {b : Bool} (e : lk E t = some (.bool b)) (ht : b = true → FJ c l.toArray R L K is E) (hf : b = false → FJ c l.toArray R L K is E) : FJ c l.toArray R L K is E := by
  cases b with
  | true => exact ht rfl
  | false => exact hf rfl
theorem xj_nil {ops : Array Oper} {K : Env → Hp → List Asn → Prop} {G : List Asn} (h : K E R G) : XJ c ops L K [] E R G := h
end
end V
end Go.Proofs.Ytcgjlhhfldkdaaa
