/- A small separation logic over the walk of the library: assertions about disjoint pieces of memory, judgements for operations, code and calls, and the rules for them. -/
import Derived.Tactics
import Derived.Deep.Quiet
import Derived.Laws.AppendOwn
import Derived.Laws.AppendOwnNone
import Derived.Laws.OwnMore
import Derived.Laws.NewBlocks
import Derived.Laws.Rows
import Derived.Laws.Slices
import Derived.WalkKit
set_option linter.unusedSimpArgs false
set_option linter.unusedVariables false
namespace Go.Proofs.Ytcgjlhhfldkdaaa
open Go.RowKit
namespace V

/-! ### pieces of memory -/
abbrev Hp := Nat → Option Obj
abbrev Asn := Hp → Prop
def Hp.le (h g : Hp) : Prop := ∀ b o, h b = some o → g b = some o
def Hp.dis (h g : Hp) : Prop := ∀ b, h b = none ∨ g b = none
def Hp.emp : Hp := fun _ => none
def Hp.un (h g : Hp) : Hp := fun b => (h b).or (g b)
theorem Hp.le_refl (h : Hp) : h.le h := fun _ _ e => e
theorem Hp.le_trans {a b c : Hp} (h : a.le b) (k : b.le c) : a.le c := fun x o e => k x o (h x o e)
theorem Hp.dis_symm {a b : Hp} (h : a.dis b) : b.dis a := fun x => (h x).symm
theorem Hp.dis_le {a b c : Hp} (h : a.dis b) (k : c.le b) : a.dis c := fun x => by
  rcases h x with e | e
  · exact .inl e
  · refine .inr ?_
    cases hc : c x with
    | none => rfl
    | some o => have := k x o hc; rw [e] at this; cases this
theorem Hp.le_un_left (a b : Hp) : a.le (a.un b) := fun x o e => by simp [Hp.un, e]
theorem Hp.le_un_right {a b : Hp} (h : a.dis b) : b.le (a.un b) := fun x o e => by
  rcases h x with k | k
  · simp [Hp.un, k, e]
  · rw [e] at k; cases k
theorem Hp.un_le {a b c : Hp} (h : a.le c) (k : b.le c) : (a.un b).le c := fun x o e => by
  simp only [Hp.un] at e
  cases ha : a x with
  | none => rw [ha] at e; exact k x o e
  | some q => rw [ha] at e; simp only [Option.or] at e; cases e; exact h x _ ha
theorem Hp.dis_un {a b c : Hp} (h : a.dis b) (k : a.dis c) : a.dis (b.un c) := fun x => by
  rcases h x with e | e
  · exact .inl e
  · rcases k x with e' | e'
    · exact .inl e'
    · exact .inr (by simp [Hp.un, e, e'])
/-- what a piece holds at an address -/
def Hp.cell (h : Hp) (a : Addr) : Option Value :=
  match h a.block with
  | some (.cells c _ _) => if a.spot.isSome then none else c[a.off]?
  | _ => none

/-- all of a list, each in a piece of its own -/
def stars : List Asn → Hp → Prop
  | [], _ => True
  | A :: L, h => ∃ h1 h2 : Hp, h1.le h ∧ h2.le h ∧ h1.dis h2 ∧ A h1 ∧ stars L h2
theorem stars_le {L : List Asn} {h g : Hp} (k : h.le g) (s : stars L h) : stars L g := by
  cases L with
  | nil => trivial
  | cons A L => obtain ⟨h1, h2, a, b, c, d, e⟩ := s; exact ⟨h1, h2, Hp.le_trans a k, Hp.le_trans b k, c, d, e⟩

/-- an element of a list, and the list without it -/
inductive Find (A : Asn) : List Asn → List Asn → Prop
  | head (L : List Asn) : Find A (A :: L) L
  | tail {B : Asn} {L M : List Asn} : Find A L M → Find A (B :: L) (B :: M)
theorem Find.stars {A : Asn} {L M : List Asn} (f : Find A L M) : ∀ {h : Hp}, stars L h → stars (A :: M) h := by
  induction f with
  | head L => exact fun s => s
  | tail f ih =>
    rintro h ⟨h1, h2, a, b, c, d, e⟩
    obtain ⟨k1, k2, a', b', c', d', e'⟩ := ih e
    have hd : k1.dis h1 := Hp.dis_symm (Hp.dis_le c a')
    exact ⟨k1, h1.un k2, Hp.le_trans a' b, Hp.un_le a (Hp.le_trans b' b), Hp.dis_un hd c', d',
      ⟨h1, k2, Hp.le_un_left _ _, Hp.le_un_right (Hp.dis_le c b'), Hp.dis_le c b', d, e'⟩⟩
theorem Find.back {A : Asn} {L M : List Asn} (f : Find A L M) : ∀ {h : Hp}, V.stars (A :: M) h → V.stars L h := by
  induction f with
  | head L => exact fun s => s
  | tail f ih =>
    rintro h ⟨k1, k2, a, b, c, d, ⟨h1, k3, a', b', c', d', e'⟩⟩
    refine ⟨h1, k1.un k3, Hp.le_trans a' b, Hp.un_le a (Hp.le_trans b' b), Hp.dis_un (Hp.dis_symm (Hp.dis_le c a')) c', d', ih ⟨k1, k3, Hp.le_un_left _ _, Hp.le_un_right (Hp.dis_le c b'), Hp.dis_le c b', d, e'⟩⟩
/-- what a list gives: a list of some of its elements -/
inductive Sub : List Asn → List Asn → Prop
  | refl (L : List Asn) : Sub L L
  | pick {A : Asn} {L L1 M : List Asn} : Find A L L1 → Sub L1 M → Sub L (A :: M)
  | drop {A : Asn} {L M : List Asn} : Sub L M → Sub (A :: L) M
theorem Sub.stars {L M : List Asn} (s : Sub L M) : ∀ {h : Hp}, V.stars L h → V.stars M h := by
  induction s with
  | refl L => exact fun s => s
  | pick f _ ih => intro h s; obtain ⟨h1, h2, a, b, c, d, e⟩ := f.stars s; exact ⟨h1, h2, a, b, c, d, ih e⟩
  | drop _ ih => rintro h ⟨h1, h2, a, b, c, d, e⟩; exact ih (stars_le b e)

theorem zH {A : Asn} (L : List Asn) : Find A (A :: L) L := .head L
theorem zT {A B : Asn} {L M : List Asn} (h : Find A L M) : Find A (B :: L) (B :: M) := .tail h
theorem zR (L : List Asn) : Sub L L := .refl L
theorem zP {A : Asn} {L L1 M : List Asn} (h : Find A L L1) (k : Sub L1 M) : Sub L (A :: M) := .pick h k
theorem zD {A : Asn} {L M : List Asn} (h : Sub L M) : Sub (A :: L) M := .drop h
/-! ### worlds -/
structure Sat (σ : World) (R : Hp) (L : List Asn) (w : World) : Prop where
  os : w.os = σ.os
  tape : w.tape = σ.tape
  output : w.output = σ.output
  ro : ∀ b o, R b = some o → w.heap[b]? = some o
  own : ∃ h : Hp, (∀ b o, h b = some o → w.heap[b]? = some o) ∧ h.dis R ∧ stars L h
theorem Sat.sub {σ : World} {R : Hp} {L M : List Asn} {w : World} (s : Sub L M) (h : Sat σ R L w) : Sat σ R M w :=
  ⟨h.os, h.tape, h.output, h.ro, let ⟨g, a, b, c⟩ := h.own; ⟨g, a, b, s.stars c⟩⟩
theorem Sat.find {σ : World} {R : Hp} {L M : List Asn} {A : Asn} {w : World} (f : Find A L M) (h : Sat σ R L w) : Sat σ R (A :: M) w :=
  ⟨h.os, h.tape, h.output, h.ro, let ⟨g, a, b, c⟩ := h.own; ⟨g, a, b, f.stars c⟩⟩
theorem Sat.back {σ : World} {R : Hp} {L M : List Asn} {A : Asn} {w : World} (f : Find A L M) (h : Sat σ R (A :: M) w) : Sat σ R L w :=
  ⟨h.os, h.tape, h.output, h.ro, let ⟨g, a, b, c⟩ := h.own; ⟨g, a, b, f.back c⟩⟩
theorem Sat.drew {σ : World} {R : Hp} {L : List Asn} {w : World} (h : Sat σ R L w) : Sat σ R L w.drew := ⟨h.os, h.tape, h.output, h.ro, h.own⟩
/-- one assertion for another that it gives -/
theorem Sat.turn {σ : World} {R : Hp} {L : List Asn} {A B : Asn} {w : World} (k : ∀ h, A h → B h) (s : Sat σ R (A :: L) w) : Sat σ R (B :: L) w :=
  ⟨s.os, s.tape, s.output, s.ro, let ⟨g, a, b, h1, h2, c⟩ := s.own; ⟨g, a, b, h1, h2, c.1, c.2.1, c.2.2.1, k _ c.2.2.2.1, c.2.2.2.2⟩⟩

/-- block b is a row of cells -/
def pts (b : Nat) (cs : Array Value) (e : TypeId) : Asn := fun h => h b = some (.cells cs e (0, 0))
theorem Sat.pts_heap {σ : World} {R : Hp} {L : List Asn} {w : World} {b : Nat} {cs : Array Value} {e : TypeId} (s : Sat σ R (pts b cs e :: L) w) : w.heap[b]? = some (.cells cs e (0, 0)) := by
  obtain ⟨g, a, _, h1, h2, c⟩ := s.own
  exact a _ _ (c.1 _ _ c.2.2.2.1)
/-- a block of ours is turned -/
theorem Sat.put {σ : World} {R : Hp} {L : List Asn} {w w' : World} {b : Nat} {o o' : Obj} (s : Sat σ R ((fun h => h b = some o) :: L) w)
    (h1 : w'.os = w.os) (h2 : w'.tape = w.tape) (h3 : w'.output = w.output) (h4 : ∀ k, k ≠ b → k < w.heap.size → w'.heap[k]? = w.heap[k]?) (h5 : w'.heap[b]? = some o') : Sat σ R ((fun h => h b = some o') :: L) w' := by
  obtain ⟨g, a, d, g1, g2, c1, c2, c3, c4, c5⟩ := s.own
  have hb : ∀ k q, R k = some q → k ≠ b := by
    rintro k q hk rfl
    rcases d k with e | e
    · rw [c1 _ _ c4] at e; cases e
    · rw [hk] at e; cases e
  have h2b : g2 b = none := by
    rcases c3 b with e | e
    · rw [c4] at e; cases e
    · exact e
  have lt : ∀ k q, w.heap[k]? = some q → k < w.heap.size := fun k q hk => (Array.getElem?_eq_some_iff.1 hk).1
  refine ⟨h1.trans s.os, h2.trans s.tape, h3.trans s.output, fun k q hk => ?_, (fun k => if k = b then some o' else g2 k), ?_, ?_, (fun k => if k = b then some o' else none), g2, ?_, ?_, ?_, by simp, c5⟩
  · have := s.ro k q hk
    rw [h4 k (hb k q hk) (lt _ _ this)]; exact this
  · intro k q hk
    simp only at hk
    split at hk
    · rename_i e; subst e; rw [h5]; exact hk
    · rename_i e; have := a _ _ (c2 _ _ hk); rw [h4 k e (lt _ _ this)]; exact this
  · intro k
    simp only
    split
    · rename_i e; subst e
      refine .inr ?_
      cases hk : R k with
      | none => rfl
      | some q => exact absurd rfl (hb k q hk)
    · cases hk : g2 k with
      | none => exact .inl rfl
      | some q =>
        rcases d k with e | e
        · rw [c2 _ _ hk] at e; cases e
        · exact .inr e
  · intro k q hk; simp only at hk ⊢; split at hk
    · rename_i e; rw [if_pos e]; exact hk
    · cases hk
  · intro k q hk
    have : k ≠ b := by rintro rfl; rw [h2b] at hk; cases hk
    simp only [if_neg this]; exact hk
  · intro k
    simp only
    split
    · rename_i e; subst e; exact .inr h2b
    · exact .inl rfl
theorem Sat.set {σ : World} {R : Hp} {L : List Asn} {w : World} {b off : Nat} {cs : Array Value} {e : TypeId} (v : Value) (s : Sat σ R (pts b cs e :: L) w) :
    Sat σ R (pts b (cs.setIfInBounds off v) e :: L) (w.setCell ⟨b, off, none⟩ v) := by
  have hb := s.pts_heap
  have hlt := (Array.getElem?_eq_some_iff.1 hb).1
  refine Sat.put (o := .cells cs e (0, 0)) s rfl rfl rfl (fun k hk _ => Below.heap_setCell _ _ _ _ hk) ?_
  simp only [World.setCell, Array.getElem?_modify, hb]
  simp
theorem Sat.setRow {σ : World} {R : Hp} {L : List Asn} {w : World} {b : Nat} {cs : Array Value} {e : TypeId} (cs' : Array Value) (s : Sat σ R (pts b cs e :: L) w) :
    Sat σ R (pts b cs' e :: L) (w.setRow b cs') := by
  have hb := s.pts_heap
  exact Sat.put (o := .cells cs e (0, 0)) s rfl rfl rfl (fun k hk _ => setRow_other w b k _ hk) (setRow_heap w b cs cs' e _ hb)
/-- a new block -/
theorem Sat.alloc {σ : World} {R : Hp} {L : List Asn} {w : World} (o : Obj) (s : Sat σ R L w) : Sat σ R ((fun h => h w.heap.size = some o) :: L) (w.alloc o) := by
  obtain ⟨g, a, d, c⟩ := s.own
  have lt : ∀ k q, w.heap[k]? = some q → k < w.heap.size := fun k q hk => (Array.getElem?_eq_some_iff.1 hk).1
  have old : ∀ k q, w.heap[k]? = some q → (w.alloc o).heap[k]? = some q := fun k q hk => by rw [Below.heap_alloc _ _ _ (lt _ _ hk)]; exact hk
  have hg : g w.heap.size = none := by
    cases hk : g w.heap.size with
    | none => rfl
    | some q => exact absurd (lt _ _ (a _ _ hk)) (by omega)
  refine ⟨s.os, s.tape, s.output, fun k q hk => old _ _ (s.ro _ _ hk), (fun k => if k = w.heap.size then some o else g k), ?_, ?_, (fun k => if k = w.heap.size then some o else none), g, ?_, ?_, ?_, by simp, c⟩
  · intro k q hk
    simp only at hk
    split at hk
    · rename_i e; subst e; cases hk; exact heap_alloc_new _ _
    · exact old _ _ (a _ _ hk)
  · intro k
    simp only
    split
    · rename_i e; subst e
      refine .inr ?_
      cases hk : R w.heap.size with
      | none => rfl
      | some q => exact absurd (lt _ _ (s.ro _ _ hk)) (by omega)
    · exact d k
  · intro k q hk; simp only at hk ⊢; split at hk
    · rename_i e; rw [if_pos e]; exact hk
    · cases hk
  · intro k q hk
    have : k ≠ w.heap.size := by rintro rfl; rw [hg] at hk; cases hk
    simp only [if_neg this]; exact hk
  · intro k
    simp only
    split
    · rename_i e; subst e; exact .inr hg
    · exact .inl rfl
theorem Sat.freeze {σ : World} {R : Hp} {L : List Asn} {w : World} {A : Asn} (s : Sat σ R (A :: L) w) : ∃ R' : Hp, R.le R' ∧ (∃ h : Hp, h.le R' ∧ A h) ∧ Sat σ R' L w := by
  obtain ⟨g, a, d, g1, g2, c1, c2, c3, c4, c5⟩ := s.own
  refine ⟨R.un g1, Hp.le_un_left _ _, ⟨g1, Hp.le_un_right (Hp.dis_le (Hp.dis_symm d) c1), c4⟩, s.os, s.tape, s.output, ?_, g2, fun b o h => a _ _ (c2 _ _ h), ?_, c5⟩
  · intro b o hb
    simp only [Hp.un] at hb
    cases hr : R b with
    | none => rw [hr] at hb; exact a _ _ (c1 _ _ hb)
    | some q => rw [hr] at hb; simp only [Option.or] at hb; cases hb; exact s.ro _ _ hr
  · exact Hp.dis_un (Hp.dis_symm (Hp.dis_le (Hp.dis_symm d) c2)) (Hp.dis_symm c3)

/-! ### frames -/
abbrev Env := List (Nat × Value)
def lk : Env → Nat → Option Value
  | [], _ => none
  | (i, v) :: E, t => cond (Nat.beq i t) (some v) (lk E t)
def ev (E : Env) : Operand → Option Value
  | .tmp t => lk E t
  | .const v => some v
  | .global g => some (.pointer (some ⟨g, 0, none⟩))
  | .func f => some (.func (.func f) #[] #[])
theorem dT {p : Prop} [Decidable p] : (decide p = true) = p := decide_eq_true_eq
theorem dF {p : Prop} [Decidable p] : (decide p = false) ↔ ¬ p := decide_eq_false_iff_not
theorem nT {b : Bool} : ((!b) = true) = (b = false) := Bool.not_eq_true' b
theorem nF {b : Bool} : ((!b) = false) = (b = true) := Bool.not_eq_false' b
theorem tF : (true = false) = False := Bool.true_eq_false
theorem fT : (false = true) = False := Bool.false_eq_true
structure Fr (n : Nat) (E : Env) (a : Act) : Prop where
  size : a.tmps.size = n
  dfs : a.defers = []
  get : ∀ t v, lk E t = some v → a.tmps.getD t undef = v
theorem Fr.ev {n : Nat} {E : Env} {a : Act} (h : Fr n E a) {x : Operand} {v : Value} (e : V.ev E x = some v) : a.eval x = v := by
  cases x with
  | tmp t => exact h.get _ _ e
  | const v => exact Option.some.inj e
  | global g => exact Option.some.inj e
  | func f => exact Option.some.inj e
theorem Fr.put {n : Nat} {E : Env} {a : Act} (h : Fr n E a) {d : Nat} (hd : Nat.blt d n = true) (v : Value) : Fr n ((d, v) :: E) (a.put (some d) v) := by
  have hd' : d < a.tmps.size := by rw [h.size]; simpa [Nat.blt, Nat.succ_le_iff] using hd
  refine ⟨by simp [Act.put, h.size], h.dfs, fun t u e => ?_⟩
  simp only [lk] at e
  cases hb : Nat.beq d t with
  | true =>
    rw [hb] at e
    obtain rfl : d = t := Nat.eq_of_beq_eq_true hb
    simp only [cond_true, Option.some.injEq] at e
    subst e
    simp [Act.put, Array.getD_eq_getD_getElem?, hd']
  | false =>
    rw [hb] at e
    have hne : d ≠ t := Nat.ne_of_beq_eq_false hb
    have := h.get t u e
    simp only [Act.put]
    rw [Array.getD_eq_getD_getElem?, Array.getElem?_setIfInBounds_ne hne, ← Array.getD_eq_getD_getElem?]
    exact this
theorem Fr.put_none {n : Nat} {E : Env} {a : Act} (h : Fr n E a) (v : Value) : Fr n E (a.put none v) := h
/-- E' says no more than E -/
def Env.le (E' E : Env) : Prop := ∀ t v, lk E' t = some v → lk E t = some v
theorem Env.le_nil (E : Env) : Env.le [] E := fun _ _ h => by cases h
theorem Env.le_cons {E' E : Env} {t : Nat} {v : Value} (h : lk E t = some v) (k : Env.le E' E) : Env.le ((t, v) :: E') E := fun u x e => by
  simp only [lk] at e
  cases hb : Nat.beq t u with
  | true => rw [hb] at e; obtain rfl := Nat.eq_of_beq_eq_true hb; exact h.trans e
  | false => rw [hb] at e; exact k u x e
theorem eL {E' E : Env} (t : Nat) {v : Value} (h : lk E t = some v) (k : Env.le E' E) : Env.le ((t, v) :: E') E := Env.le_cons h k
theorem eC {E' E : Env} {t : Nat} {v : Value} (h : lk E t = some v) (k : Env.le E' E) : Env.le ((t, v) :: E') E := Env.le_cons h k
theorem eN {E : Env} : Env.le [] E := Env.le_nil E
theorem Fr.le {n : Nat} {E E' : Env} {a : Act} (h : Fr n E a) (k : Env.le E' E) : Fr n E' a := ⟨h.size, h.dfs, fun t v e => h.get t v (k t v e)⟩
/-- what is asked of a guard -/
def dstOf (ops : Array Oper) (j : Nat) : Option Tmp := (ops[j]?).bind (·.dst)
theorem Fr.yielded {n : Nat} {E : Env} {a : Act} (h : Fr n E a) {ops : Array Oper} {j t : Nat} {b : Bool} (hd : dstOf ops j = some t) (ht : Nat.blt t n = true) (e : lk E t = some (.bool b)) : yielded ops a.tmps j = some b := by
  have h1 := h.get t _ e
  have ht' : t < a.tmps.size := by rw [h.size]; simpa [Nat.blt, Nat.succ_le_iff] using ht
  rw [Array.getD_eq_getD_getElem?, Array.getElem?_eq_getElem ht'] at h1
  simp only [Option.getD_some] at h1
  unfold dstOf at hd
  simp [Go.yielded, hd, Array.getElem?_eq_getElem ht', h1]
end V
end Go.Proofs.Ytcgjlhhfldkdaaa
