/- The judgements of the small separation logic, and the rules for operations that hand back a value and leave memory alone. -/
import Derived.Test.YtcgjlhhfldkdaaaV
set_option linter.unusedSimpArgs false
set_option linter.unusedVariables false
namespace Go.Proofs.Ytcgjlhhfldkdaaa
open Go.RowKit
namespace V

structure Cx where
  P : Program
  n : Nat
  σ : World

/-- an operation yields v wherever the frame and the memory are as told -/
def Yld (c : Cx) (E : Env) (R : Hp) (L : List Asn) (o : Oper) (v : Value) : Prop :=
  ∀ (a : Act) (w : World), Fr c.n E a → Sat c.σ R L w → Oper.quietUpon c.P (Sat c.σ R L) w v ((execOp a.eval o).run c.P w)
/-- the rest of a region -/
def RJ (c : Cx) (ops : Array Oper) (Q : Exit → Act → World → Prop) (l : List Oper) (E : Env) (R : Hp) (L : List Asn) : Prop :=
  ∀ (a : Act) (w : World), Fr c.n E a → Sat c.σ R L w → wpList c.P ops Q l a w
/-- the rest of a region that draws its order, all of whose operations are quiet -/
def QJ (c : Cx) (ops : Array Oper) (R : Hp) (L : List Asn) (K : Act → Prop) (l : List Oper) (E : Env) : Prop :=
  ∀ (a : Act), Fr c.n E a → wpQuiet c.P ops (Sat c.σ R L) K l a
def CJ (c : Cx) (x : Code) (Q : Exit → Act → World → Prop) (E : Env) (R : Hp) (L : List Asn) : Prop :=
  ∀ (a : Act) (w : World), Fr c.n E a → Sat c.σ R L w → x.wp c.P Q a w
def EJ (c : Cx) (Q : Act → World → Prop) (E : Env) (R : Hp) (L : List Asn) : Prop :=
  ∀ (a : Act) (w : World), Fr c.n E a → Sat c.σ R L w → Q a w

section
variable {c : Cx} {ops : Array Oper} {Q : Exit → Act → World → Prop} {E : Env} {R : Hp} {L : List Asn} {o : Oper} {rest : List Oper} {v : Value}

def Wn (c : Cx) (ops : Array Oper) (E : Env) (o : Oper) (b : Bool) : Prop := ∀ a, Fr c.n E a → Region.wanted o (yielded ops a.tmps) = b
theorem wn0 (h : o.guard = none) : Wn c ops E o true := fun _ _ => by simp [Region.wanted, h]
theorem wn1 {j t : Nat} {b : Bool} (h : o.guard = some (j, b)) (hd : dstOf ops j = some t) (ht : Nat.blt t c.n = true) (e : lk E t = some (.bool b)) : Wn c ops E o true :=
  fun a hf => by simp [Region.wanted, h, hf.yielded hd ht e]
theorem wn2 {j t : Nat} {b b' : Bool} (h : o.guard = some (j, b)) (hd : dstOf ops j = some t) (ht : Nat.blt t c.n = true) (e : lk E t = some (.bool b')) (hb : b' = !b) : Wn c ops E o false :=
  fun a hf => by subst hb; simp [Region.wanted, h, hf.yielded hd ht e]

theorem wn3 {j t : Nat} {b : Bool} (h : o.guard = some (j, b)) (hd : dstOf ops j = some t) (ht : Nat.blt t c.n = true) (e : lk E t = some undef) : Wn c ops E o false :=
  fun a hf => by
    have h1 := hf.get t _ e
    have ht' : t < a.tmps.size := by rw [hf.size]; simpa [Nat.blt, Nat.succ_le_iff] using ht
    rw [Array.getD_eq_getD_getElem?, Array.getElem?_eq_getElem ht'] at h1
    simp only [Option.getD_some] at h1
    unfold dstOf at hd
    simp [Region.wanted, h, yielded, hd, Array.getElem?_eq_getElem ht', h1, undef]

theorem upon_quiet {a : Act} {K : Act → World → Prop} {w : World} (hf : Fr c.n E a) (hs : Sat c.σ R L w) (y : Yld c E R L o v)
    (h : ∀ w', Sat c.σ R L w' → K (a.put o.dst v) w') : o.wp c.P a w K Q :=
  Oper.wp_of_quiet (C := Sat c.σ R L) (K := fun a' => a' = a.put o.dst v) hs (fun a' w' hw' ha' => by subst ha'; exact h w' hw') ⟨v, fun w hw => y a w hf hw, rfl⟩

theorem rj_val {d : Nat} (hw : Wn c ops E o true) (hd : o.dst = some d) (hn : Nat.blt d c.n = true) (y : Yld c E R L o v)
    (h : RJ c ops Q rest ((d, v) :: E) R L) : RJ c ops Q (o :: rest) E R L := by
  intro a w hf hs
  unfold wpList
  rw [if_pos (hw a hf)]
  exact .inl (upon_quiet hf hs y fun w' hs' => h _ _ (by rw [hd]; exact hf.put hn v) hs')
theorem rv0 {d : Nat} (hw : o.guard = none) (hd : o.dst = some d) (hn : Nat.blt d c.n = true) (y : Yld c E R L o v)
    (h : RJ c ops Q rest ((d, v) :: E) R L) : RJ c ops Q (o :: rest) E R L := rj_val (wn0 hw) hd hn y h
theorem rj_val0 (hw : Wn c ops E o true) (hd : o.dst = none) (y : Yld c E R L o v)
    (h : RJ c ops Q rest E R L) : RJ c ops Q (o :: rest) E R L := by
  intro a w hf hs
  unfold wpList
  rw [if_pos (hw a hf)]
  exact .inl (upon_quiet hf hs y fun w' hs' => h _ _ (by rw [hd]; exact hf) hs')
theorem rj_skip {d : Nat} (hw : Wn c ops E o false) (hd : o.dst = some d) (hn : Nat.blt d c.n = true)
    (h : RJ c ops Q rest ((d, undef) :: E) R L) : RJ c ops Q (o :: rest) E R L := by
  intro a w hf hs
  unfold wpList
  rw [if_neg (by rw [hw a hf]; decide)]
  exact h _ _ (by rw [hd]; exact hf.put hn _) hs
theorem rj_skip0 (hw : Wn c ops E o false) (hd : o.dst = none)
    (h : RJ c ops Q rest E R L) : RJ c ops Q (o :: rest) E R L := by
  intro a w hf hs
  unfold wpList
  rw [if_neg (by rw [hw a hf]; decide)]
  exact h _ _ (by rw [hd]; exact hf) hs
theorem rj_nil (h : EJ c (Q .normal) E R L) : RJ c ops Q [] E R L := fun a w hf hs => h a w hf hs
/-- a Bool slot is parted -/
theorem rj_part {l : List Oper} (t : Nat) {b : Bool} (e : lk E t = some (.bool b)) (ht : b = true → RJ c ops Q l ((t, .bool true) :: E) R L)
    (hf : b = false → RJ c ops Q l ((t, .bool false) :: E) R L) : RJ c ops Q l E R L := by
  intro a w ha hs
  cases b with
  | true => exact ht rfl a w (ha.le (Env.le_cons e fun _ _ h => h)) hs
  | false => exact hf rfl a w (ha.le (Env.le_cons e fun _ _ h => h)) hs
/-- a slot's value is spelled otherwise -/
theorem rj_eq {l : List Oper} (t : Nat) {v v' : Value} (e : lk E t = some v) (hv : v = v') (h : RJ c ops Q l ((t, v') :: E) R L) : RJ c ops Q l E R L :=
  fun a w ha hs => h a w (ha.le (Env.le_cons (e.trans (by rw [hv])) fun _ _ h => h)) hs
theorem rj_env {l : List Oper} {E' : Env} (k : Env.le E' E) (h : RJ c ops Q l E' R L) : RJ c ops Q l E R L := fun a w ha hs => h a w (ha.le k) hs
theorem rj_sub {l : List Oper} {M : List Asn} (k : Sub L M) (h : RJ c ops Q l E R M) : RJ c ops Q l E R L := fun a w ha hs => h a w ha (hs.sub k)

/-! ### the same in a region that draws -/
section
variable {K : Act → Prop}
theorem qj_val {d : Nat} (hw : Wn c ops E o true) (hd : o.dst = some d) (hn : Nat.blt d c.n = true) (y : Yld c E R L o v)
    (h : QJ c ops R L K rest ((d, v) :: E)) : QJ c ops R L K (o :: rest) E := by
  intro a hf
  unfold wpQuiet
  rw [if_pos (hw a hf)]
  exact ⟨v, fun w hs => y a w hf hs, h _ (by rw [hd]; exact hf.put hn v)⟩
theorem qj_val0 (hw : Wn c ops E o true) (hd : o.dst = none) (y : Yld c E R L o v)
    (h : QJ c ops R L K rest E) : QJ c ops R L K (o :: rest) E := by
  intro a hf
  unfold wpQuiet
  rw [if_pos (hw a hf)]
  exact ⟨v, fun w hs => y a w hf hs, h _ (by rw [hd]; exact hf)⟩
theorem qj_skip {d : Nat} (hw : Wn c ops E o false) (hd : o.dst = some d) (hn : Nat.blt d c.n = true)
    (h : QJ c ops R L K rest ((d, undef) :: E)) : QJ c ops R L K (o :: rest) E := by
  intro a hf
  unfold wpQuiet
  rw [if_neg (by rw [hw a hf]; decide)]
  exact h _ (by rw [hd]; exact hf.put hn _)
theorem qj_nil (h : EJ c (Q .normal) E R L) : QJ c ops R L (fun a' => ∀ w', Sat c.σ R L w' → Q .normal a' w') [] E := fun _ hf _ hs => h _ _ hf hs
theorem qj_part {l : List Oper} (t : Nat) {b : Bool} (e : lk E t = some (.bool b)) (ht : b = true → QJ c ops R L K l ((t, .bool true) :: E))
    (hf : b = false → QJ c ops R L K l ((t, .bool false) :: E)) : QJ c ops R L K l E := by
  intro a ha
  cases b with
  | true => exact ht rfl a (ha.le (Env.le_cons e fun _ _ h => h))
  | false => exact hf rfl a (ha.le (Env.le_cons e fun _ _ h => h))
theorem qj_eq {l : List Oper} (t : Nat) {v v' : Value} (e : lk E t = some v) (hv : v = v') (h : QJ c ops R L K l ((t, v') :: E)) : QJ c ops R L K l E :=
  fun a ha => h a (ha.le (Env.le_cons (e.trans (by rw [hv])) fun _ _ h => h))
end

/-! ### code -/
theorem cj_region {id : Nat} {l : List Oper} (h : RJ c l.toArray Q l E R L) : CJ c (.region id l.toArray false) Q E R L :=
  fun a w hf hs => wp_region_lit (h a w hf hs)
theorem cj_draw {id : Nat} {l : List Oper} (hm : c.P.follows .mixedOrders = true) (hB : Region.lexB .any l.toArray = true)
    (h : QJ c l.toArray R L (fun a' => ∀ w', Sat c.σ R L w' → Q .normal a' w') l E) : CJ c (.region id l.toArray true) Q E R L :=
  fun a w hf hs => wp_region_quiet (C := Sat c.σ R L) hm hB hs.drew (h a hf)
theorem cj_seq {x y : Code} (h : ∀ K : Act → World → Prop, (∀ E R L, CJ c y Q E R L → EJ c K E R L) → CJ c x (Exit.then K Q) E R L) : CJ c (.seq x y) Q E R L :=
  fun a w hf hs => wp_seq (h (fun a w => y.wp c.P Q a w) (fun _ _ _ k a w ha hw => k a w ha hw) a w hf hs)
theorem cj_skip (h : EJ c (Q .normal) E R L) : CJ c .skip Q E R L := fun a w hf hs => wp_skip (h a w hf hs)
theorem cj_exit {id : Nat} (h : EJ c (Q (.exit id)) E R L) : CJ c (.exit id) Q E R L := fun a w hf hs => wp_exit (h a w hf hs)
theorem cj_ret (h : EJ c (Q .ret) E R L) : CJ c .ret Q E R L := fun a w hf hs => wp_ret (h a w hf hs)
theorem cj_block {id : Nat} {x : Code} (h : CJ c x (Exit.inBlock id Q) E R L) : CJ c (.block id x) Q E R L := fun a w hf hs => wp_block (h a w hf hs)
theorem cj_cond {x : Operand} {s t : Code} {b : Bool} (e : ev E x = some (.bool b)) (hs : b = true → CJ c s Q E R L) (ht : b = false → CJ c t Q E R L) : CJ c (.cond x s t) Q E R L := by
  intro a w hf hw
  cases b with
  | true => exact wp_cond_true (hf.ev e) (hs rfl a w hf hw)
  | false => exact wp_cond_false (hf.ev e) (ht rfl a w hf hw)
theorem cj_cond_t {x : Operand} {s t : Code} (e : ev E x = some (.bool true)) (hs : CJ c s Q E R L) : CJ c (.cond x s t) Q E R L :=
  fun a w hf hw => wp_cond_true (hf.ev e) (hs a w hf hw)
theorem cj_cond_f {x : Operand} {s t : Code} (e : ev E x = some (.bool false)) (ht : CJ c t Q E R L) : CJ c (.cond x s t) Q E R L :=
  fun a w hf hw => wp_cond_false (hf.ev e) (ht a w hf hw)
theorem cj_env {x : Code} {E' : Env} (k : Env.le E' E) (h : CJ c x Q E' R L) : CJ c x Q E R L := fun a w ha hs => h a w (ha.le k) hs
theorem cj_eq {x : Code} (t : Nat) {v v' : Value} (e : lk E t = some v) (hv : v = v') (h : CJ c x Q ((t, v') :: E) R L) : CJ c x Q E R L :=
  fun a w ha hs => h a w (ha.le (Env.le_cons (e.trans (by rw [hv])) fun _ _ h => h)) hs
theorem cj_sub {x : Code} {M : List Asn} (k : Sub L M) (h : CJ c x Q E R M) : CJ c x Q E R L := fun a w ha hs => h a w ha (hs.sub k)
/-- what becomes of a round -/
def roundK {ι : Type} (c : Cx) (E : ι → Env) (R : ι → Hp) (L : ι → List Asn) (I : ι → Prop) (m : ι → Nat) (x : ι) (a : Act) (w : World) : Prop :=
  ∃ y, I y ∧ m y < m x ∧ Fr c.n (E y) a ∧ Sat c.σ (R y) (L y) w
theorem cj_loop {x : Code} {ι : Type} (E : ι → Env) (R : ι → Hp) (L : ι → List Asn) (I : ι → Prop) (m : ι → Nat) (x0 : ι) (h0 : I x0)
    (h : ∀ y, I y → CJ c x (Exit.then (roundK c E R L I m y) Q) (E y) (R y) (L y)) : CJ c (.loop x) Q (E x0) (R x0) (L x0) := by
  intro a w hf hs
  intro b kk cs
  have key : ∀ (k : Nat) (y : ι) (a : Act) (w : World), m y = k → I y → Fr c.n (E y) a → Sat c.σ (R y) (L y) w →
      ∃ e a' w', Q e a' w' ∧ Arrives c.P (lone (b.at a (.code x :: .inLoop x :: kk)) cs w) b kk cs e a' w' := by
    intro k
    induction k using Nat.strongRecOn with
    | _ k ih =>
      intro y a w hk hI hf hs
      obtain ⟨e, a1, w1, hq, harr⟩ := h y hI a w hf hs b (.inLoop x :: kk) cs
      cases e with
      | normal =>
        obtain ⟨z, hz, hlt, hfz, hsz⟩ := hq
        obtain ⟨e2, a2, w2, hq2, harr2⟩ := ih (m z) (hk ▸ hlt) z a1 w1 rfl hz hfz hsz
        exact ⟨e2, a2, w2, hq2, .of_steps (Steps.trans harr (.one step_inLoop)) harr2⟩
      | exit id => exact ⟨_, a1, w1, hq, .pass (x := .inLoop x) rfl (fun _ _ => .inl (by simp)) harr⟩
      | goto l => exact ⟨_, a1, w1, hq, .pass (x := .inLoop x) rfl (fun _ _ => .inl (by simp)) harr⟩
      | ret => exact ⟨_, a1, w1, hq, .pass (x := .inLoop x) rfl (fun _ _ => .inl (by simp)) harr⟩
      | panic ch => exact ⟨_, a1, w1, hq, .pass (x := .inLoop x) rfl (fun _ _ => .inl (by simp)) harr⟩
      | outgrown => exact ⟨_, a1, w1, hq, .pass (x := .inLoop x) rfl (fun _ _ => .inl (by simp)) harr⟩
  obtain ⟨e, a', w', hq, harr⟩ := key _ x0 a w rfl h0 hf hs
  exact ⟨e, a', w', hq, .of_steps (.one step_loop) harr⟩

theorem cj_loop_once {x : Code} (h : CJ c x (Exit.then (fun _ _ => False) Q) E R L) : CJ c (.loop x) Q E R L :=
  fun a w hf hs => wp_loop_once (h a w hf hs)
/-! ### ends -/
theorem ej_env {q : Act → World → Prop} {E' : Env} (k : Env.le E' E) (h : EJ c q E' R L) : EJ c q E R L := fun a w ha hs => h a w (ha.le k) hs
theorem ej_sub {q : Act → World → Prop} {M : List Asn} (k : Sub L M) (h : EJ c q E R M) : EJ c q E R L := fun a w ha hs => h a w ha (hs.sub k)
theorem ej_on {q q' : Act → World → Prop} (k : q' = q) (h : EJ c q' E R L) : EJ c q E R L := k ▸ h
theorem ej_join {q : Act → World → Prop} {ι : Sort _} {E0 : ι → Env} {R0 : ι → Hp} {L0 : ι → List Asn} {I : ι → Prop} (h : ∀ y, I y → EJ c q (E0 y) (R0 y) (L0 y)) (y : ι) (hI : I y)
    (he : Env.le (E0 y) E) (hR : R0 y = R) (hL : Sub L (L0 y)) : EJ c q E R L :=
  fun a w ha hs => h y hI a w (ha.le he) (by rw [hR]; exact hs.sub hL)
theorem ej_round {ι : Type} {E0 : ι → Env} {R0 : ι → Hp} {L0 : ι → List Asn} {I : ι → Prop} {m : ι → Nat} {x : ι} (y : ι) (hI : I y) (hm : m y < m x)
    (he : Env.le (E0 y) E) (hR : R0 y = R) (hL : Sub L (L0 y)) : EJ c (roundK c E0 R0 L0 I m x) E R L :=
  fun _ _ ha hs => ⟨y, hI, hm, ha.le he, by rw [hR]; exact hs.sub hL⟩
end
end V
end Go.Proofs.Ytcgjlhhfldkdaaa
