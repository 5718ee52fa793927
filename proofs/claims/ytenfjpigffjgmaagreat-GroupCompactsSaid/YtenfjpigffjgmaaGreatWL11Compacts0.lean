/- Parts that the texts behind stand on: V, V1, V2, V3, V4, V5, V6, R0, L0, V7, V8, V9, V10, V11, V15, V13, V14, V12, V17, TMp, T7a, T3p. -/
import Derived.Tactics
import Derived.Deep.Quiet
import Derived.Laws.AppendOwn
import Derived.Laws.AppendOwnNone
import Derived.Laws.OwnMore
import Derived.Laws.NewBlocks
import Derived.Laws.Rows
import Derived.Laws.Slices
import Derived.WalkKit
import Derived.Laws.DeepStrings4
import Derived.Lib.Strings
import Derived.Laws.Pointers
import Derived.Laws.Small
import Derived.Laws.LoneSync
import Derived.Laws.IdiomStrings
import Derived.ProofKit
import Derived.ChangeOld
import Derived.Below
import Derived.OpenShut
import Derived.Test.YtenfjpigffjgmaaGreatRows
import Derived.ShutString
import Derived.Orders
import Derived.Deep.AppendSrc
import Derived.Lib.Builder
import Derived.Lib.UnsafeStr
import Derived.Laws.Cover3
import Derived.Laws.StructEq
import Derived.Test.YtenfjpigffjgmaaGreatProg
import Derived.KernelRfl
set_option linter.unusedSimpArgs false
set_option linter.unusedVariables false
namespace Go.Proofs.YtenfjpigffjgmaaGreat
open Go.RowKit
namespace V
abbrev Hp := Nat → Option Obj
abbrev Asn := Hp → Prop
def Hp.le (h g : Hp) : Prop := ∀ b o, h b = some o → g b = some o
def Hp.dis (h g : Hp) : Prop := ∀ b, h b = none ∨ g b = none
def Hp.emp : Hp := fun _ => none
def Hp.un (h g : Hp) : Hp := fun b => (h b).or (g b)
theorem Hp.le_refl (h : Hp) : h.le h := fun _ _ e => e
theorem Hp.le_trans {a b c : Hp} (h : a.le b) (k : b.le c) : a.le c := fun x o e => k x o (h x o e)
theorem Hp.dis_symm {a b : Hp} (h : a.dis b) : b.dis a := fun x => (h x).symm
theorem Hp.dis_le {a b c : Hp} (h : a.dis b) (k : c.le b) : a.dis c := fun x => by
 rcases h x with e | e
 ·exact .inl e
 ·refine .inr ?_
  cases hc : c x with
  | none => rfl
  | some o => have := k x o hc; rw [e] at this; cases this
theorem Hp.le_un_left (a b : Hp) : a.le (a.un b) := fun x o e => by simp [Hp.un, e]
theorem Hp.le_un_right {a b : Hp} (h : a.dis b) : b.le (a.un b) := fun x o e => by
 rcases h x with k | k
 ·simp [Hp.un, k, e]
 ·rw [e] at k; cases k
theorem Hp.un_le {a b c : Hp} (h : a.le c) (k : b.le c) : (a.un b).le c := fun x o e => by
 simp only [Hp.un] at e
 cases ha : a x with
 | none => rw [ha] at e; exact k x o e
 | some q => rw [ha] at e; simp only [Option.or] at e; cases e; exact h x _ ha
theorem Hp.dis_un {a b c : Hp} (h : a.dis b) (k : a.dis c) : a.dis (b.un c) := fun x => by
 rcases h x with e | e
 ·exact .inl e
 ·rcases k x with e' | e'
  ·exact .inl e'
  ·exact .inr (by simp [Hp.un, e, e'])
def Hp.cell (h : Hp) (a : Addr) : Option Value :=
 match h a.block with
 | some (.cells c _ _) => if a.spot.isSome then none else c[a.off]?
 | _ => none

def stars : List Asn → Hp → Prop
 | [], _ => True
 | A :: L, h => ∃ h1 h2 : Hp, h1.le h ∧ h2.le h ∧ h1.dis h2 ∧ A h1 ∧ stars L h2
theorem Qbc {L : List Asn} {h g : Hp} (k : h.le g) (s : stars L h) : stars L g := by
 cases L with
 | nil => trivial
 | cons A L => obtain ⟨h1, h2, a, b, c, d, e⟩ := s; exact ⟨h1, h2, Hp.le_trans a k, Hp.le_trans b k, c, d, e⟩

inductive Find (A : Asn) : List Asn → List Asn → Prop
 | head (L : List Asn) : Find A (A :: L) L
 | tail {B : Asn} {L M : List Asn} : Find A L M → Find A (B :: L) (B :: M)
theorem Find.stars {A : Asn} {L M : List Asn} (f : Find A L M) : ∀ {h : Hp}, stars L h → stars (A :: M) h := by
 induction f with
 | head L => exact fun s => s
 | tail f ih =>
  rintro h ⟨h1, h2, a, b, c, d, e⟩
  obtain ⟨k1, k2, a', b', c', d', e'⟩ := ih e
  have hd : k1.dis h1 := Hp.dis_symm (Hp.dis_le c a')
  exact ⟨k1, h1.un k2, Hp.le_trans a' b, Hp.un_le a (Hp.le_trans b' b), Hp.dis_un hd c', d',
   ⟨h1, k2, Hp.le_un_left _ _, Hp.le_un_right (Hp.dis_le c b'), Hp.dis_le c b', d, e'⟩⟩
theorem Find.back {A : Asn} {L M : List Asn} (f : Find A L M) : ∀ {h : Hp}, V.stars (A :: M) h → V.stars L h := by
 induction f with
 | head L => exact fun s => s
 | tail f ih =>
  rintro h ⟨k1, k2, a, b, c, d, ⟨h1, k3, a', b', c', d', e'⟩⟩
  refine ⟨h1, k1.un k3, Hp.le_trans a' b, Hp.un_le a (Hp.le_trans b' b), Hp.dis_un (Hp.dis_symm (Hp.dis_le c a')) c', d', ih ⟨k1, k3, Hp.le_un_left _ _, Hp.le_un_right (Hp.dis_le c b'), Hp.dis_le c b', d, e'⟩⟩
inductive Sub : List Asn → List Asn → Prop
 | refl (L : List Asn) : Sub L L
 | pick {A : Asn} {L L1 M : List Asn} : Find A L L1 → Sub L1 M → Sub L (A :: M)
 | drop {A : Asn} {L M : List Asn} : Sub L M → Sub (A :: L) M
theorem Sub.stars {L M : List Asn} (s : Sub L M) : ∀ {h : Hp}, V.stars L h → V.stars M h := by
 induction s with
 | refl L => exact fun s => s
 | pick f _ ih => intro h s; obtain ⟨h1, h2, a, b, c, d, e⟩ := f.stars s; exact ⟨h1, h2, a, b, c, d, ih e⟩
 | drop _ ih => rintro h ⟨h1, h2, a, b, c, d, e⟩; exact ih (Qbc b e)

theorem zH {A : Asn} (L : List Asn) : Find A (A :: L) L := .head L
theorem zT {A B : Asn} {L M : List Asn} (h : Find A L M) : Find A (B :: L) (B :: M) := .tail h
theorem zR (L : List Asn) : Sub L L := .refl L
theorem zP {A : Asn} {L L1 M : List Asn} (h : Find A L L1) (k : Sub L1 M) : Sub L (A :: M) := .pick h k
theorem zD {A : Asn} {L M : List Asn} (h : Sub L M) : Sub (A :: L) M := .drop h
structure Sat (σ : World) (R : Hp) (L : List Asn) (w : World) : Prop where
 os : w.os = σ.os
 tape : w.tape = σ.tape
 output : w.output = σ.output
 ro : ∀ b o, R b = some o → w.heap[b]? = some o
 own : ∃ h : Hp, (∀ b o, h b = some o → w.heap[b]? = some o) ∧ h.dis R ∧ stars L h
theorem Sat.sub {σ : World} {R : Hp} {L M : List Asn} {w : World} (s : Sub L M) (h : Sat σ R L w) : Sat σ R M w :=
 ⟨h.os, h.tape, h.output, h.ro, let ⟨g, a, b, c⟩ := h.own; ⟨g, a, b, s.stars c⟩⟩
theorem Sat.find {σ : World} {R : Hp} {L M : List Asn} {A : Asn} {w : World} (f : Find A L M) (h : Sat σ R L w) : Sat σ R (A :: M) w :=
 ⟨h.os, h.tape, h.output, h.ro, let ⟨g, a, b, c⟩ := h.own; ⟨g, a, b, f.stars c⟩⟩
theorem Sat.drew {σ : World} {R : Hp} {L : List Asn} {w : World} (h : Sat σ R L w) : Sat σ R L w.drew := ⟨h.os, h.tape, h.output, h.ro, h.own⟩
theorem Sat.turn {σ : World} {R : Hp} {L : List Asn} {A B : Asn} {w : World} (k : ∀ h, A h → B h) (s : Sat σ R (A :: L) w) : Sat σ R (B :: L) w :=
 ⟨s.os, s.tape, s.output, s.ro, let ⟨g, a, b, h1, h2, c⟩ := s.own; ⟨g, a, b, h1, h2, c.1, c.2.1, c.2.2.1, k _ c.2.2.2.1, c.2.2.2.2⟩⟩

def pts (b : Nat) (cs : Array Value) (e : TypeId) : Asn := fun h => h b = some (.cells cs e (0, 0))
theorem Sat.pts_heap {σ : World} {R : Hp} {L : List Asn} {w : World} {b : Nat} {cs : Array Value} {e : TypeId} (s : Sat σ R (pts b cs e :: L) w) : w.heap[b]? = some (.cells cs e (0, 0)) := by
 obtain ⟨g, a, _, h1, h2, c⟩ := s.own
 exact a _ _ (c.1 _ _ c.2.2.2.1)
theorem Sat.put {σ : World} {R : Hp} {L : List Asn} {w w' : World} {b : Nat} {o o' : Obj} (s : Sat σ R ((fun h => h b = some o) :: L) w)
  (h1 : w'.os = w.os) (h2 : w'.tape = w.tape) (h3 : w'.output = w.output) (h4 : ∀ k, k ≠ b → k < w.heap.size → w'.heap[k]? = w.heap[k]?) (h5 : w'.heap[b]? = some o') : Sat σ R ((fun h => h b = some o') :: L) w' := by
 obtain ⟨g, a, d, g1, g2, c1, c2, c3, c4, c5⟩ := s.own
 have hb : ∀ k q, R k = some q → k ≠ b := by
  rintro k q hk rfl
  rcases d k with e | e
  ·rw [c1 _ _ c4] at e; cases e
  ·rw [hk] at e; cases e
 have h2b : g2 b = none := by
  rcases c3 b with e | e
  ·rw [c4] at e; cases e
  ·exact e
 have lt : ∀ k q, w.heap[k]? = some q → k < w.heap.size := fun k q hk => (Array.getElem?_eq_some_iff.1 hk).1
 refine ⟨h1.trans s.os, h2.trans s.tape, h3.trans s.output, fun k q hk => ?_, (fun k => if k = b then some o' else g2 k), ?_, ?_, (fun k => if k = b then some o' else none), g2, ?_, ?_, ?_, by simp, c5⟩
 ·have := s.ro k q hk
  rw [h4 k (hb k q hk) (lt _ _ this)]; exact this
 ·intro k q hk
  simp only at hk
  split at hk
  ·rename_i e; subst e; rw [h5]; exact hk
  ·rename_i e; have := a _ _ (c2 _ _ hk); rw [h4 k e (lt _ _ this)]; exact this
 ·intro k
  simp only
  split
  ·rename_i e; subst e
   refine .inr ?_
   cases hk : R k with
   | none => rfl
   | some q => exact absurd rfl (hb k q hk)
  ·cases hk : g2 k with
   | none => exact .inl rfl
   | some q =>
    rcases d k with e | e
    ·rw [c2 _ _ hk] at e; cases e
    ·exact .inr e
 ·intro k q hk; simp only at hk ⊢; split at hk
  ·rename_i e; rw [if_pos e]; exact hk
  ·cases hk
 ·intro k q hk
  have : k ≠ b := by rintro rfl; rw [h2b] at hk; cases hk
  simp only [if_neg this]; exact hk
 ·intro k
  simp only
  split
  ·rename_i e; subst e; exact .inr h2b
  ·exact .inl rfl
theorem Sat.set {σ : World} {R : Hp} {L : List Asn} {w : World} {b off : Nat} {cs : Array Value} {e : TypeId} (v : Value) (s : Sat σ R (pts b cs e :: L) w) :
  Sat σ R (pts b (cs.setIfInBounds off v) e :: L) (w.setCell ⟨b, off, none⟩ v) := by
 have hb := s.pts_heap
 have hlt := (Array.getElem?_eq_some_iff.1 hb).1
 refine Sat.put (o := .cells cs e (0, 0)) s rfl rfl rfl (fun k hk _ => Below.heap_setCell _ _ _ _ hk) ?_
 simp only [World.setCell, Array.getElem?_modify, hb]
 simp
theorem Sat.setRow {σ : World} {R : Hp} {L : List Asn} {w : World} {b : Nat} {cs : Array Value} {e : TypeId} (cs' : Array Value) (s : Sat σ R (pts b cs e :: L) w) :
  Sat σ R (pts b cs' e :: L) (w.setRow b cs') := by
 have hb := s.pts_heap
 exact Sat.put (o := .cells cs e (0, 0)) s rfl rfl rfl (fun k hk _ => setRow_other w b k _ hk) (setRow_heap w b cs cs' e _ hb)
theorem Sat.alloc {σ : World} {R : Hp} {L : List Asn} {w : World} (o : Obj) (s : Sat σ R L w) : Sat σ R ((fun h => h w.heap.size = some o) :: L) (w.alloc o) := by
 obtain ⟨g, a, d, c⟩ := s.own
 have lt : ∀ k q, w.heap[k]? = some q → k < w.heap.size := fun k q hk => (Array.getElem?_eq_some_iff.1 hk).1
 have old : ∀ k q, w.heap[k]? = some q → (w.alloc o).heap[k]? = some q := fun k q hk => by rw [Below.heap_alloc _ _ _ (lt _ _ hk)]; exact hk
 have hg : g w.heap.size = none := by
  cases hk : g w.heap.size with
  | none => rfl
  | some q => exact absurd (lt _ _ (a _ _ hk)) (by omega)
 refine ⟨s.os, s.tape, s.output, fun k q hk => old _ _ (s.ro _ _ hk), (fun k => if k = w.heap.size then some o else g k), ?_, ?_, (fun k => if k = w.heap.size then some o else none), g, ?_, ?_, ?_, by simp, c⟩
 ·intro k q hk
  simp only at hk
  split at hk
  ·rename_i e; subst e; cases hk; exact heap_alloc_new _ _
  ·exact old _ _ (a _ _ hk)
 ·intro k
  simp only
  split
  ·rename_i e; subst e
   refine .inr ?_
   cases hk : R w.heap.size with
   | none => rfl
   | some q => exact absurd (lt _ _ (s.ro _ _ hk)) (by omega)
  ·exact d k
 ·intro k q hk; simp only at hk ⊢; split at hk
  ·rename_i e; rw [if_pos e]; exact hk
  ·cases hk
 ·intro k q hk
  have : k ≠ w.heap.size := by rintro rfl; rw [hg] at hk; cases hk
  simp only [if_neg this]; exact hk
 ·intro k
  simp only
  split
  ·rename_i e; subst e; exact .inr hg
  ·exact .inl rfl
theorem Sat.freeze {σ : World} {R : Hp} {L : List Asn} {w : World} {A : Asn} (s : Sat σ R (A :: L) w) : ∃ R' : Hp, R.le R' ∧ (∃ h : Hp, h.le R' ∧ A h) ∧ Sat σ R' L w := by
 obtain ⟨g, a, d, g1, g2, c1, c2, c3, c4, c5⟩ := s.own
 refine ⟨R.un g1, Hp.le_un_left _ _, ⟨g1, Hp.le_un_right (Hp.dis_le (Hp.dis_symm d) c1), c4⟩, s.os, s.tape, s.output, ?_, g2, fun b o h => a _ _ (c2 _ _ h), ?_, c5⟩
 ·intro b o hb
  simp only [Hp.un] at hb
  cases hr : R b with
  | none => rw [hr] at hb; exact a _ _ (c1 _ _ hb)
  | some q => rw [hr] at hb; simp only [Option.or] at hb; cases hb; exact s.ro _ _ hr
 ·exact Hp.dis_un (Hp.dis_symm (Hp.dis_le (Hp.dis_symm d) c2)) (Hp.dis_symm c3)

abbrev Env := List (Nat × Value)
def lk : Env → Nat → Option Value
 | [], _ => none
 | (i, v) :: E, t => cond (Nat.beq i t) (some v) (lk E t)
def ev (E : Env) : Operand → Option Value
 | .tmp t => lk E t
 | .const v => some v
 | .global g => some (.pointer (some ⟨g, 0, none⟩))
 | .func f => some (.func (.func f) #[] #[])
theorem dT {p : Prop} [Decidable p] : (decide p = true) = p := decide_eq_true_eq
theorem dF {p : Prop} [Decidable p] : (decide p = false) ↔ ¬ p := decide_eq_false_iff_not
theorem nT {b : Bool} : ((!b) = true) = (b = false) := Bool.not_eq_true' b
theorem nF {b : Bool} : ((!b) = false) = (b = true) := Bool.not_eq_false' b
theorem tF : (true = false) = False := Bool.true_eq_false
theorem fT : (false = true) = False := Bool.false_eq_true
structure Fr (n : Nat) (E : Env) (a : Act) : Prop where
 size : a.tmps.size = n
 dfs : a.defers = []
 get : ∀ t v, lk E t = some v → a.tmps.getD t undef = v
theorem Fr.ev {n : Nat} {E : Env} {a : Act} (h : Fr n E a) {x : Operand} {v : Value} (e : V.ev E x = some v) : a.eval x = v := by
 cases x with
 | tmp t => exact h.get _ _ e
 | const v => exact Option.some.inj e
 | global g => exact Option.some.inj e
 | func f => exact Option.some.inj e
theorem Fr.put {n : Nat} {E : Env} {a : Act} (h : Fr n E a) {d : Nat} (hd : Nat.blt d n = true) (v : Value) : Fr n ((d, v) :: E) (a.put (some d) v) := by
 have hd' : d < a.tmps.size := by rw [h.size]; simpa [Nat.blt, Nat.succ_le_iff] using hd
 refine ⟨by simp [Act.put, h.size], h.dfs, fun t u e => ?_⟩
 simp only [lk] at e
 cases hb : Nat.beq d t with
 | true =>
  rw [hb] at e
  obtain rfl : d = t := Nat.eq_of_beq_eq_true hb
  simp only [cond_true, Option.some.injEq] at e
  subst e
  simp [Act.put, Array.getD_eq_getD_getElem?, hd']
 | false =>
  rw [hb] at e
  have hne : d ≠ t := Nat.ne_of_beq_eq_false hb
  have := h.get t u e
  simp only [Act.put]
  rw [Array.getD_eq_getD_getElem?, Array.getElem?_setIfInBounds_ne hne, ← Array.getD_eq_getD_getElem?]
  exact this
def Env.le (E' E : Env) : Prop := ∀ t v, lk E' t = some v → lk E t = some v
theorem Env.le_nil (E : Env) : Env.le [] E := fun _ _ h => by cases h
theorem Env.le_cons {E' E : Env} {t : Nat} {v : Value} (h : lk E t = some v) (k : Env.le E' E) : Env.le ((t, v) :: E') E := fun u x e => by
 simp only [lk] at e
 cases hb : Nat.beq t u with
 | true => rw [hb] at e; obtain rfl := Nat.eq_of_beq_eq_true hb; exact h.trans e
 | false => rw [hb] at e; exact k u x e
theorem eL {E' E : Env} (t : Nat) {v : Value} (h : lk E t = some v) (k : Env.le E' E) : Env.le ((t, v) :: E') E := Env.le_cons h k
theorem eC {E' E : Env} {t : Nat} {v : Value} (h : lk E t = some v) (k : Env.le E' E) : Env.le ((t, v) :: E') E := Env.le_cons h k
theorem eN {E : Env} : Env.le [] E := Env.le_nil E
theorem Fr.le {n : Nat} {E E' : Env} {a : Act} (h : Fr n E a) (k : Env.le E' E) : Fr n E' a := ⟨h.size, h.dfs, fun t v e => h.get t v (k t v e)⟩
def QaL (ops : Array Oper) (j : Nat) : Option Tmp := (ops[j]?).bind (·.dst)
theorem Fr.yielded {n : Nat} {E : Env} {a : Act} (h : Fr n E a) {ops : Array Oper} {j t : Nat} {b : Bool} (hd : QaL ops j = some t) (ht : Nat.blt t n = true) (e : lk E t = some (.bool b)) : yielded ops a.tmps j = some b := by
 have h1 := h.get t _ e
 have ht' : t < a.tmps.size := by rw [h.size]; simpa [Nat.blt, Nat.succ_le_iff] using ht
 rw [Array.getD_eq_getD_getElem?, Array.getElem?_eq_getElem ht'] at h1
 simp only [Option.getD_some] at h1
 unfold QaL at hd
 simp [Go.yielded, hd, Array.getElem?_eq_getElem ht', h1]
structure Cx where
 P : Program
 n : Nat
 σ : World

def Yld (c : Cx) (E : Env) (R : Hp) (L : List Asn) (o : Oper) (v : Value) : Prop :=
 ∀ (a : Act) (w : World), Fr c.n E a → Sat c.σ R L w → Oper.quietUpon c.P (Sat c.σ R L) w v ((execOp a.eval o).run c.P w)
def RJ (c : Cx) (ops : Array Oper) (Q : Exit → Act → World → Prop) (l : List Oper) (E : Env) (R : Hp) (L : List Asn) : Prop :=
 ∀ (a : Act) (w : World), Fr c.n E a → Sat c.σ R L w → wpList c.P ops Q l a w
def QJ (c : Cx) (ops : Array Oper) (R : Hp) (L : List Asn) (K : Act → Prop) (l : List Oper) (E : Env) : Prop :=
 ∀ (a : Act), Fr c.n E a → wpQuiet c.P ops (Sat c.σ R L) K l a
def CJ (c : Cx) (x : Code) (Q : Exit → Act → World → Prop) (E : Env) (R : Hp) (L : List Asn) : Prop :=
 ∀ (a : Act) (w : World), Fr c.n E a → Sat c.σ R L w → x.wp c.P Q a w
def EJ (c : Cx) (Q : Act → World → Prop) (E : Env) (R : Hp) (L : List Asn) : Prop :=
 ∀ (a : Act) (w : World), Fr c.n E a → Sat c.σ R L w → Q a w

section
variable {c : Cx} {ops : Array Oper} {Q : Exit → Act → World → Prop} {E : Env} {R : Hp} {L : List Asn} {o : Oper} {rest : List Oper} {v : Value}

def Wn (c : Cx) (ops : Array Oper) (E : Env) (o : Oper) (b : Bool) : Prop := ∀ a, Fr c.n E a → Region.wanted o (yielded ops a.tmps) = b
theorem wn0 (h : o.guard = none) : Wn c ops E o true := fun _ _ => by simp [Region.wanted, h]
theorem wn1 {j t : Nat} {b : Bool} (h : o.guard = some (j, b)) (hd : QaL ops j = some t) (ht : Nat.blt t c.n = true) (e : lk E t = some (.bool b)) : Wn c ops E o true :=
 fun a hf => by simp [Region.wanted, h, hf.yielded hd ht e]
theorem wn2 {j t : Nat} {b b' : Bool} (h : o.guard = some (j, b)) (hd : QaL ops j = some t) (ht : Nat.blt t c.n = true) (e : lk E t = some (.bool b')) (hb : b' = !b) : Wn c ops E o false :=
 fun a hf => by subst hb; simp [Region.wanted, h, hf.yielded hd ht e]

theorem wn3 {j t : Nat} {b : Bool} (h : o.guard = some (j, b)) (hd : QaL ops j = some t) (ht : Nat.blt t c.n = true) (e : lk E t = some undef) : Wn c ops E o false :=
 fun a hf => by
  have h1 := hf.get t _ e
  have ht' : t < a.tmps.size := by rw [hf.size]; simpa [Nat.blt, Nat.succ_le_iff] using ht
  rw [Array.getD_eq_getD_getElem?, Array.getElem?_eq_getElem ht'] at h1
  simp only [Option.getD_some] at h1
  unfold QaL at hd
  simp [Region.wanted, h, yielded, hd, Array.getElem?_eq_getElem ht', h1, undef]

theorem Qf0 {a : Act} {K : Act → World → Prop} {w : World} (hf : Fr c.n E a) (hs : Sat c.σ R L w) (y : Yld c E R L o v)
  (h : ∀ w', Sat c.σ R L w' → K (a.put o.dst v) w') : o.wp c.P a w K Q :=
 Oper.wp_of_quiet (C := Sat c.σ R L) (K := fun a' => a' = a.put o.dst v) hs (fun a' w' hw' ha' => by subst ha'; exact h w' hw') ⟨v, fun w hw => y a w hf hw, rfl⟩

theorem Qhb {d : Nat} (hw : Wn c ops E o true) (hd : o.dst = some d) (hn : Nat.blt d c.n = true) (y : Yld c E R L o v)
  (h : RJ c ops Q rest ((d, v) :: E) R L) : RJ c ops Q (o :: rest) E R L := by
 intro a w hf hs
 unfold wpList
 rw [if_pos (hw a hf)]
 exact .inl (Qf0 hf hs y fun w' hs' => h _ _ (by rw [hd]; exact hf.put hn v) hs')
theorem rv0 {d : Nat} (hw : o.guard = none) (hd : o.dst = some d) (hn : Nat.blt d c.n = true) (y : Yld c E R L o v)
  (h : RJ c ops Q rest ((d, v) :: E) R L) : RJ c ops Q (o :: rest) E R L := Qhb (wn0 hw) hd hn y h
theorem XG {d : Nat} (hw : Wn c ops E o false) (hd : o.dst = some d) (hn : Nat.blt d c.n = true)
  (h : RJ c ops Q rest ((d, undef) :: E) R L) : RJ c ops Q (o :: rest) E R L := by
 intro a w hf hs
 unfold wpList
 rw [if_neg (by rw [hw a hf]; decide)]
 exact h _ _ (by rw [hd]; exact hf.put hn _) hs
theorem Qe (h : EJ c (Q .normal) E R L) : RJ c ops Q [] E R L := fun a w hf hs => h a w hf hs
theorem QL {l : List Oper} (t : Nat) {b : Bool} (e : lk E t = some (.bool b)) (ht : b = true → RJ c ops Q l ((t, .bool true) :: E) R L)
  (hf : b = false → RJ c ops Q l ((t, .bool false) :: E) R L) : RJ c ops Q l E R L := by
 intro a w ha hs
 cases b with
 | true => exact ht rfl a w (ha.le (Env.le_cons e fun _ _ h => h)) hs
 | false => exact hf rfl a w (ha.le (Env.le_cons e fun _ _ h => h)) hs
theorem Xk {l : List Oper} (t : Nat) {v v' : Value} (e : lk E t = some v) (hv : v = v') (h : RJ c ops Q l ((t, v') :: E) R L) : RJ c ops Q l E R L :=
 fun a w ha hs => h a w (ha.le (Env.le_cons (e.trans (by rw [hv])) fun _ _ h => h)) hs
section
variable {K : Act → Prop}
theorem Qho {d : Nat} (hw : Wn c ops E o true) (hd : o.dst = some d) (hn : Nat.blt d c.n = true) (y : Yld c E R L o v)
  (h : QJ c ops R L K rest ((d, v) :: E)) : QJ c ops R L K (o :: rest) E := by
 intro a hf
 unfold wpQuiet
 rw [if_pos (hw a hf)]
 exact ⟨v, fun w hs => y a w hf hs, h _ (by rw [hd]; exact hf.put hn v)⟩
theorem Qkf {d : Nat} (hw : Wn c ops E o false) (hd : o.dst = some d) (hn : Nat.blt d c.n = true)
  (h : QJ c ops R L K rest ((d, undef) :: E)) : QJ c ops R L K (o :: rest) E := by
 intro a hf
 unfold wpQuiet
 rw [if_neg (by rw [hw a hf]; decide)]
 exact h _ (by rw [hd]; exact hf.put hn _)
theorem Xi (h : EJ c (Q .normal) E R L) : QJ c ops R L (fun a' => ∀ w', Sat c.σ R L w' → Q .normal a' w') [] E := fun _ hf _ hs => h _ _ hf hs
theorem Zc {l : List Oper} (t : Nat) {b : Bool} (e : lk E t = some (.bool b)) (ht : b = true → QJ c ops R L K l ((t, .bool true) :: E))
  (hf : b = false → QJ c ops R L K l ((t, .bool false) :: E)) : QJ c ops R L K l E := by
 intro a ha
 cases b with
 | true => exact ht rfl a (ha.le (Env.le_cons e fun _ _ h => h))
 | false => exact hf rfl a (ha.le (Env.le_cons e fun _ _ h => h))
end
theorem Qc {id : Nat} {l : List Oper} (h : RJ c l.toArray Q l E R L) : CJ c (.region id l.toArray false) Q E R L :=
 fun a w hf hs => wp_region_lit (h a w hf hs)
theorem Xw {id : Nat} {l : List Oper} (hm : c.P.follows .mixedOrders = true) (hB : Region.lexB .any l.toArray = true)
  (h : QJ c l.toArray R L (fun a' => ∀ w', Sat c.σ R L w' → Q .normal a' w') l E) : CJ c (.region id l.toArray true) Q E R L :=
 fun a w hf hs => wp_region_quiet (C := Sat c.σ R L) hm hB hs.drew (h a hf)
theorem Qd {x y : Code} (h : ∀ K : Act → World → Prop, (∀ E R L, CJ c y Q E R L → EJ c K E R L) → CJ c x (Exit.then K Q) E R L) : CJ c (.seq x y) Q E R L :=
 fun a w hf hs => wp_seq (h (fun a w => y.wp c.P Q a w) (fun _ _ _ k a w ha hw => k a w ha hw) a w hf hs)
theorem Qj (h : EJ c (Q .normal) E R L) : CJ c .skip Q E R L := fun a w hf hs => wp_skip (h a w hf hs)
theorem QQ {id : Nat} (h : EJ c (Q (.exit id)) E R L) : CJ c (.exit id) Q E R L := fun a w hf hs => wp_exit (h a w hf hs)
theorem Qi (h : EJ c (Q .ret) E R L) : CJ c .ret Q E R L := fun a w hf hs => wp_ret (h a w hf hs)
theorem Qp {id : Nat} {x : Code} (h : CJ c x (Exit.inBlock id Q) E R L) : CJ c (.block id x) Q E R L := fun a w hf hs => wp_block (h a w hf hs)
theorem Qm {x : Operand} {s t : Code} {b : Bool} (e : ev E x = some (.bool b)) (hs : b = true → CJ c s Q E R L) (ht : b = false → CJ c t Q E R L) : CJ c (.cond x s t) Q E R L := by
 intro a w hf hw
 cases b with
 | true => exact wp_cond_true (hf.ev e) (hs rfl a w hf hw)
 | false => exact wp_cond_false (hf.ev e) (ht rfl a w hf hw)
theorem QC {x : Operand} {s t : Code} (e : ev E x = some (.bool true)) (hs : CJ c s Q E R L) : CJ c (.cond x s t) Q E R L :=
 fun a w hf hw => wp_cond_true (hf.ev e) (hs a w hf hw)
theorem Qt {x : Operand} {s t : Code} (e : ev E x = some (.bool false)) (ht : CJ c t Q E R L) : CJ c (.cond x s t) Q E R L :=
 fun a w hf hw => wp_cond_false (hf.ev e) (ht a w hf hw)
theorem Ql {x : Code} {E' : Env} (k : Env.le E' E) (h : CJ c x Q E' R L) : CJ c x Q E R L := fun a w ha hs => h a w (ha.le k) hs
theorem QmE {x : Code} (t : Nat) {v v' : Value} (e : lk E t = some v) (hv : v = v') (h : CJ c x Q ((t, v') :: E) R L) : CJ c x Q E R L :=
 fun a w ha hs => h a w (ha.le (Env.le_cons (e.trans (by rw [hv])) fun _ _ h => h)) hs
theorem Xm {x : Code} {M : List Asn} (k : Sub L M) (h : CJ c x Q E R M) : CJ c x Q E R L := fun a w ha hs => h a w ha (hs.sub k)
def QY {ι : Type} (c : Cx) (E : ι → Env) (R : ι → Hp) (L : ι → List Asn) (I : ι → Prop) (m : ι → Nat) (x : ι) (a : Act) (w : World) : Prop :=
 ∃ y, I y ∧ m y < m x ∧ Fr c.n (E y) a ∧ Sat c.σ (R y) (L y) w
theorem Xa {x : Code} {ι : Type} (E : ι → Env) (R : ι → Hp) (L : ι → List Asn) (I : ι → Prop) (m : ι → Nat) (x0 : ι) (h0 : I x0)
  (h : ∀ y, I y → CJ c x (Exit.then (QY c E R L I m y) Q) (E y) (R y) (L y)) : CJ c (.loop x) Q (E x0) (R x0) (L x0) := by
 intro a w hf hs
 intro b kk cs
 have key : ∀ (k : Nat) (y : ι) (a : Act) (w : World), m y = k → I y → Fr c.n (E y) a → Sat c.σ (R y) (L y) w →
   ∃ e a' w', Q e a' w' ∧ Arrives c.P (lone (b.at a (.code x :: .inLoop x :: kk)) cs w) b kk cs e a' w' := by
  intro k
  induction k using Nat.strongRecOn with
  | _ k ih =>
   intro y a w hk hI hf hs
   obtain ⟨e, a1, w1, hq, harr⟩ := h y hI a w hf hs b (.inLoop x :: kk) cs
   cases e with
   | normal =>
    obtain ⟨z, hz, hlt, hfz, hsz⟩ := hq
    obtain ⟨e2, a2, w2, hq2, harr2⟩ := ih (m z) (hk ▸ hlt) z a1 w1 rfl hz hfz hsz
    exact ⟨e2, a2, w2, hq2, .of_steps (Steps.trans harr (.one step_inLoop)) harr2⟩
   | exit id => exact ⟨_, a1, w1, hq, .pass (x := .inLoop x) rfl (fun _ _ => .inl (by simp)) harr⟩
   | goto l => exact ⟨_, a1, w1, hq, .pass (x := .inLoop x) rfl (fun _ _ => .inl (by simp)) harr⟩
   | ret => exact ⟨_, a1, w1, hq, .pass (x := .inLoop x) rfl (fun _ _ => .inl (by simp)) harr⟩
   | panic ch => exact ⟨_, a1, w1, hq, .pass (x := .inLoop x) rfl (fun _ _ => .inl (by simp)) harr⟩
   | outgrown => exact ⟨_, a1, w1, hq, .pass (x := .inLoop x) rfl (fun _ _ => .inl (by simp)) harr⟩
 obtain ⟨e, a', w', hq, harr⟩ := key _ x0 a w rfl h0 hf hs
 exact ⟨e, a', w', hq, .of_steps (.one step_loop) harr⟩

theorem Qez {x : Code} (h : CJ c x (Exit.then (fun _ _ => False) Q) E R L) : CJ c (.loop x) Q E R L :=
 fun a w hf hs => wp_loop_once (h a w hf hs)
theorem Xs {q q' : Act → World → Prop} (k : q' = q) (h : EJ c q' E R L) : EJ c q E R L := k ▸ h
theorem QM {q : Act → World → Prop} {ι : Sort _} {E0 : ι → Env} {R0 : ι → Hp} {L0 : ι → List Asn} {I : ι → Prop} (h : ∀ y, I y → EJ c q (E0 y) (R0 y) (L0 y)) (y : ι) (hI : I y)
  (he : Env.le (E0 y) E) (hR : R0 y = R) (hL : Sub L (L0 y)) : EJ c q E R L :=
 fun a w ha hs => h y hI a w (ha.le he) (by rw [hR]; exact hs.sub hL)
theorem QI {ι : Type} {E0 : ι → Env} {R0 : ι → Hp} {L0 : ι → List Asn} {I : ι → Prop} {m : ι → Nat} {x : ι} (y : ι) (hI : I y) (hm : m y < m x)
  (he : Env.le (E0 y) E) (hR : R0 y = R) (hL : Sub L (L0 y)) : EJ c (QY c E0 R0 L0 I m x) E R L :=
 fun _ _ ha hs => ⟨y, hI, hm, ha.le he, by rw [hR]; exact hs.sub hL⟩
end
section
variable {c : Cx} {E : Env} {R : Hp} {L : List Asn} {d : Option Tmp} {ty : TypeId} {p : String} {af : Array Edge} {g : Option (Nat × Bool)}

theorem Qg {x : Operand} {v : Value} (e : ev E x = some v) : Yld c E R L ⟨d, .move x, ty, p, af, g⟩ v :=
 fun a w hf _ => by simp only [execOp, Sem.run_pure, Oper.quietUpon]; exact ⟨trivial, hf.ev e⟩
theorem Xl {x : Operand} {v : Value} (e : ev E x = some v) : Yld c E R L ⟨d, .assign x, ty, p, af, g⟩ v :=
 fun a w hf _ => by simp only [execOp, Sem.run_pure, Oper.quietUpon]; exact ⟨trivial, hf.ev e⟩
theorem Qr {x y z : Operand} {v : Value} (e : ev E x = some (.bool true)) (e1 : ev E y = some v) :
  Yld c E R L ⟨d, .pick x y z, ty, p, af, g⟩ v :=
 fun a w hf _ => by simp [execOp, hf.ev e, hf.ev e1, asBool, Oper.quietUpon]
theorem Qq {x y z : Operand} {u : Value} (e : ev E x = some (.bool false)) (e2 : ev E z = some u) :
  Yld c E R L ⟨d, .pick x y z, ty, p, af, g⟩ u :=
 fun a w hf _ => by simp [execOp, hf.ev e, hf.ev e2, asBool, Oper.quietUpon]
theorem Qf {x : Operand} {a : Addr} (e : ev E x = some (.pointer (some a))) : Yld c E R L ⟨d, .nilCheck x, ty, p, af, g⟩ (.pointer (some a)) :=
 fun _ w hf _ => by simp only [execOp, hf.ev e, Sem.run_pure, Oper.quietUpon]; exact ⟨trivial, trivial⟩
theorem Qo {x : Operand} {vs : Array Value} {i : Nat} {v : Value} (e : ev E x = some (.tuple vs)) (h : vs[i]? = some v) : Yld c E R L ⟨d, .extract x i, ty, p, af, g⟩ v :=
 fun _ w hf _ => by simp [execOp, hf.ev e, Instr.extract, h, Oper.quietUpon]
theorem QS {x y : Operand} {t t' : TypeId} {k : IntKind} {m n : Int} (e1 : ev E x = some (.int k m)) (e2 : ev E y = some (.int k n)) :
  Yld c E R L ⟨d, .binOp .add t x y t', ty, p, af, g⟩ (.int k (k.wrap (m + n))) :=
 fun _ w hf _ => by simp [execOp, hf.ev e1, hf.ev e2, eqGuard, binOp, Op.intArith, Oper.quietUpon]
theorem yt {x y : Operand} {t t' : TypeId} {k : IntKind} {m n : Int} (e1 : ev E x = some (.int k m)) (e2 : ev E y = some (.int k n)) :
  Yld c E R L ⟨d, .binOp .sub t x y t', ty, p, af, g⟩ (.int k (k.wrap (m - n))) :=
 fun _ w hf _ => by simp [execOp, hf.ev e1, hf.ev e2, eqGuard, binOp, Op.intArith, Oper.quietUpon]
theorem yS {x y : Operand} {t t' : TypeId} {k : IntKind} {m n : Int} (e1 : ev E x = some (.int k m)) (e2 : ev E y = some (.int k n)) :
  Yld c E R L ⟨d, .binOp .mul t x y t', ty, p, af, g⟩ (.int k (k.wrap (m * n))) :=
 fun _ w hf _ => by simp [execOp, hf.ev e1, hf.ev e2, eqGuard, binOp, Op.intArith, Oper.quietUpon]
theorem Yld.to {o : Oper} {v u : Value} (y : Yld c E R L o v) (h : v = u) : Yld c E R L o u := h ▸ y
theorem zc {k : IntKind} {n : Int} (h : k.min ≤ n ∧ n ≤ k.max) : k.wrap n = n := by
 cases k <;> simp [IntKind.min, IntKind.max, IntKind.signed, IntKind.bits] at h <;> simp [IntKind.wrap, IntKind.signed, IntKind.bits] <;> omega
theorem Zy {n : Int} (h : -9223372036854775808 ≤ n ∧ n ≤ 9223372036854775807) : IntKind.i64.wrap n = n := zc (by simpa [IntKind.min, IntKind.max, IntKind.signed, IntKind.bits] using h)
theorem ZM {n : Int} (h : 0 ≤ n ∧ n < 18446744073709551616) : IntKind.u64.wrap n = n := zc (by simp [IntKind.min, IntKind.max, IntKind.signed, IntKind.bits]; omega)
theorem Qz {x y : Operand} {t t' : TypeId} {m n : Int} (e1 : ev E x = some (.int .i64 m)) (e2 : ev E y = some (.int .i64 n)) (h : -9223372036854775808 ≤ m + n ∧ m + n ≤ 9223372036854775807) :
  Yld c E R L ⟨d, .binOp .add t x y t', ty, p, af, g⟩ (.int .i64 (m + n)) := (QS e1 e2).to (by rw [Zy h])
theorem YH {x y : Operand} {t t' : TypeId} {m n : Int} (e1 : ev E x = some (.int .i64 m)) (e2 : ev E y = some (.int .i64 n)) (h : -9223372036854775808 ≤ m - n ∧ m - n ≤ 9223372036854775807) :
  Yld c E R L ⟨d, .binOp .sub t x y t', ty, p, af, g⟩ (.int .i64 (m - n)) := (yt e1 e2).to (by rw [Zy h])
theorem Zn {x y : Operand} {t t' : TypeId} {m n : Int} (e1 : ev E x = some (.int .u64 m)) (e2 : ev E y = some (.int .u64 n)) (h : 0 ≤ m + n ∧ m + n < 18446744073709551616) :
  Yld c E R L ⟨d, .binOp .add t x y t', ty, p, af, g⟩ (.int .u64 (m + n)) := (QS e1 e2).to (by rw [ZM h])
theorem ZB {x y : Operand} {t t' : TypeId} {m n : Int} (e1 : ev E x = some (.int .u64 m)) (e2 : ev E y = some (.int .u64 n)) (h : 0 ≤ m - n ∧ m - n < 18446744073709551616) :
  Yld c E R L ⟨d, .binOp .sub t x y t', ty, p, af, g⟩ (.int .u64 (m - n)) := (yt e1 e2).to (by rw [ZM h])
theorem zX {x y : Operand} {t t' : TypeId} {m n : Int} (e1 : ev E x = some (.int .i64 m)) (e2 : ev E y = some (.int .i64 n)) (h : -9223372036854775808 ≤ m * n ∧ m * n ≤ 9223372036854775807) :
  Yld c E R L ⟨d, .binOp .mul t x y t', ty, p, af, g⟩ (.int .i64 (m * n)) := (yS e1 e2).to (by rw [Zy h])
theorem Qk8 {x y : Operand} {t t' : TypeId} {m n : Int} (e1 : ev E x = some (.int .u64 m)) (e2 : ev E y = some (.int .u64 n)) (h : 0 ≤ m * n ∧ m * n < 18446744073709551616) :
  Yld c E R L ⟨d, .binOp .mul t x y t', ty, p, af, g⟩ (.int .u64 (m * n)) := (yS e1 e2).to (by rw [ZM h])
theorem QU {x y : Operand} {t t' : TypeId} {k : IntKind} {m n : Int} (e1 : ev E x = some (.int k m)) (e2 : ev E y = some (.int k n)) :
  Yld c E R L ⟨d, .binOp .lss t x y t', ty, p, af, g⟩ (.bool (decide (m < n))) :=
 fun _ w hf _ => by simp [execOp, hf.ev e1, hf.ev e2, eqGuard, binOp, Op.intCmp, Oper.quietUpon]
theorem jt {x y : Operand} {t t' : TypeId} {k : IntKind} {m n : Int} (e1 : ev E x = some (.int k m)) (e2 : ev E y = some (.int k n)) :
  Yld c E R L ⟨d, .binOp .leq t x y t', ty, p, af, g⟩ (.bool (decide (m ≤ n))) :=
 fun _ w hf _ => by simp [execOp, hf.ev e1, hf.ev e2, eqGuard, binOp, Op.intCmp, Oper.quietUpon]
theorem XI {x y : Operand} {t t' : TypeId} {k : IntKind} {m n : Int} (e1 : ev E x = some (.int k m)) (e2 : ev E y = some (.int k n)) :
  Yld c E R L ⟨d, .binOp .gtr t x y t', ty, p, af, g⟩ (.bool (decide (n < m))) :=
 fun _ w hf _ => by simp [execOp, hf.ev e1, hf.ev e2, eqGuard, binOp, Op.intCmp, Oper.quietUpon]
theorem Zi {x y : Operand} {t t' : TypeId} {k : IntKind} {m n : Int} (e1 : ev E x = some (.int k m)) (e2 : ev E y = some (.int k n)) :
  Yld c E R L ⟨d, .binOp .geq t x y t', ty, p, af, g⟩ (.bool (decide (n ≤ m))) :=
 fun _ w hf _ => by simp [execOp, hf.ev e1, hf.ev e2, eqGuard, binOp, Op.intCmp, Oper.quietUpon]
theorem QO {x y : Operand} {t t' : TypeId} {k : IntKind} {m n : Int} (e1 : ev E x = some (.int k m)) (e2 : ev E y = some (.int k n)) :
  Yld c E R L ⟨d, .binOp .eql t x y t', ty, p, af, g⟩ (.bool (decide (m = n))) :=
 fun _ w hf _ => by simp [execOp, hf.ev e1, hf.ev e2, eqGuard, binOp, Op.intCmp, Oper.quietUpon]; rfl
theorem XW {x y : Operand} {t t' : TypeId} {k : IntKind} {m n : Int} (e1 : ev E x = some (.int k m)) (e2 : ev E y = some (.int k n)) :
  Yld c E R L ⟨d, .binOp .neq t x y t', ty, p, af, g⟩ (.bool (!decide (m = n))) :=
 fun _ w hf _ => by simp [execOp, hf.ev e1, hf.ev e2, eqGuard, binOp, Op.intCmp, Oper.quietUpon]; rfl
theorem Yf {x : Operand} {t : TypeId} {b : Bool} (e : ev E x = some (.bool b)) : Yld c E R L ⟨d, .unOp .not t x, ty, p, af, g⟩ (.bool !b) :=
 fun _ w hf _ => by simp [execOp, hf.ev e, Op.unary, Oper.quietUpon]
@[reducible] def str (l : List UInt8) : ByteArray := ⟨l.toArray⟩
theorem QfS {α : Type} [DecidableEq α] (m n : List α) : (m == n) = decide (m = n) := by by_cases h : m = n <;> simp [h]
theorem YN (l : List UInt8) : (str l).size = l.length := by simp [ByteArray.size]
theorem Qlm (s : ByteArray) : s = str s.data.toList := by cases s; simp
theorem zW {x y : Operand} {t t' : TypeId} {m n : List UInt8} (e1 : ev E x = some (.string (str m))) (e2 : ev E y = some (.string (str n))) :
  Yld c E R L ⟨d, .binOp .eql t x y t', ty, p, af, g⟩ (.bool (decide (m = n))) :=
 fun _ w hf _ => by simp [execOp, hf.ev e1, hf.ev e2, eqGuard, binOp, Op.stringOp, Oper.quietUpon]; exact QfS m n
theorem jO {x y : Operand} {t t' : TypeId} {m n : List UInt8} (e1 : ev E x = some (.string (str m))) (e2 : ev E y = some (.string (str n))) :
  Yld c E R L ⟨d, .binOp .neq t x y t', ty, p, af, g⟩ (.bool (!decide (m = n))) :=
 fun _ w hf _ => by simp [execOp, hf.ev e1, hf.ev e2, eqGuard, binOp, Op.stringOp, Oper.quietUpon]; exact QfS m n
theorem qr {x y : Operand} {t t' : TypeId} {m n : List UInt8} (e1 : ev E x = some (.string (str m))) (e2 : ev E y = some (.string (str n))) (h : m.length + n.length ≤ 9223372036854775807) :
  Yld c E R L ⟨d, .binOp .add t x y t', ty, p, af, g⟩ (.string (str (m ++ n))) :=
 fun _ w hf _ => by
  have hk : ¬ IntKind.i64.max < (((str m).size + (str n).size : Nat) : Int) := by simp only [YN]; simp [IntKind.max, IntKind.signed, IntKind.bits]; omega
  have e : str m ++ str n = str (m ++ n) := by apply ByteArray.ext; simp
  have r : (Op.stringOp .add (str m) (str n)).run c.P w = .ok (.string (str m ++ str n)) w := by simp only [Op.stringOp, if_neg hk, Sem.run_pure]
  simp [execOp, hf.ev e1, hf.ev e2, eqGuard, binOp, r, Oper.quietUpon, e]
theorem Yw {x : Operand} {t : TypeId} {m : List UInt8} (hT : c.P.underlying t = some .string) (e1 : ev E x = some (.string (str m))) :
  Yld c E R L ⟨d, .call { callee := .builtin .len, args := #[x], argTypes := #[t] }, ty, p, af, g⟩ (.int .i64 m.length) :=
 fun _ w hf _ => by
  have r := run_len_string (P := c.P) w t ty (str m) hT
  rw [YN] at r
  simp [execOp, resolve, invoke, builtin, hf.ev e1, r, Oper.quietUpon, goInt]
theorem zL (m : List UInt8) (a b : Nat) : (str m).extract a b = str ((m.drop a).take (b - a)) := by
 rw [Lib.extract_eq]
theorem QcG {x lo hi : Operand} {t : TypeId} {m : List UInt8} {i j : Int} (hT : c.P.underlying t = some .string) (e1 : ev E x = some (.string (str m)))
  (e2 : ev E lo = some (.int .i64 i)) (e3 : ev E hi = some (.int .i64 j)) (h : 0 ≤ i ∧ i ≤ j ∧ j ≤ m.length) :
  Yld c E R L ⟨d, .slice t x (some lo) (some hi) none, ty, p, af, g⟩ (.string (str ((m.drop i.toNat).take (j.toNat - i.toNat)))) :=
 fun _ w hf _ => by
  obtain ⟨h1, h2, h3⟩ := h
  have r := run_slice_string_if (P := c.P) w t (str m) .i64 .i64 i j hT
  rw [if_pos ⟨by omega, by rw [YN]; exact h3⟩, if_pos ⟨h1, h2⟩, zL] at r
  simp [execOp, Instr.sliceAt, run_underlying hT, hf.ev e1, hf.ev e2, hf.ev e3, r, Oper.quietUpon]
theorem jQ {x hi : Operand} {t : TypeId} {m : List UInt8} {j : Int} (hT : c.P.underlying t = some .string) (e1 : ev E x = some (.string (str m)))
  (e3 : ev E hi = some (.int .i64 j)) (h : 0 ≤ j ∧ j ≤ m.length) :
  Yld c E R L ⟨d, .slice t x none (some hi) none, ty, p, af, g⟩ (.string (str (m.take j.toNat))) :=
 fun _ w hf _ => by
  have r := run_slice_string_h (P := c.P) w t (str m) hT .i64 j h.1 (by rw [YN]; exact h.2)
  rw [zL] at r
  simp only [Nat.sub_zero, List.drop_zero] at r
  simp [execOp, Instr.sliceAt, run_underlying hT, hf.ev e1, hf.ev e3, r, Oper.quietUpon]
theorem jP {x lo : Operand} {t : TypeId} {m : List UInt8} {i : Int} (hT : c.P.underlying t = some .string) (e1 : ev E x = some (.string (str m)))
  (e2 : ev E lo = some (.int .i64 i)) (h : 0 ≤ i ∧ i ≤ m.length) :
  Yld c E R L ⟨d, .slice t x (some lo) none none, ty, p, af, g⟩ (.string (str (m.drop i.toNat))) :=
 fun _ w hf _ => by
  have r := run_slice_string_l (P := c.P) w t (str m) hT .i64 i h.1 (by rw [YN]; exact h.2)
  rw [zL, YN, List.take_of_length_le (by simp)] at r
  simp [execOp, Instr.sliceAt, run_underlying hT, hf.ev e1, hf.ev e2, r, Oper.quietUpon]
def XF (m : List UInt8) (i : Int) : Int := ((m.getD i.toNat 0).toNat : Int)
theorem qP (m : List UInt8) (i : Int) : 0 ≤ XF m i ∧ XF m i < 256 := by unfold XF; have := (m.getD i.toNat 0).toNat_lt; omega
theorem YA {x y : Operand} {t : TypeId} {k : IntKind} {m : List UInt8} {i : Int} (hT : c.P.underlying t = some .string) (e1 : ev E x = some (.string (str m)))
  (e2 : ev E y = some (.int k i)) (h : 0 ≤ i ∧ i < m.length) :
  Yld c E R L ⟨d, .index t x y, ty, p, af, g⟩ (.int .u8 (XF m i)) :=
 fun _ w hf _ => by
  have r := run_index_string (P := c.P) w t (str m) k i hT
  rw [dif_pos ⟨h.1, by rw [YN]; exact h.2⟩] at r
  have e : (str m)[i.toNat]'(by rw [YN]; omega) = m.getD i.toNat 0 := by
   rw [List.getD_eq_getElem?_getD, List.getElem?_eq_getElem (by omega)]; rfl
  rw [e] at r
  simp [execOp, hf.ev e1, hf.ev e2, r, Oper.quietUpon, XF]
theorem YS {x : Operand} {s t : TypeId} {k k' : IntKind} {n : Int} {D : TypeDesc} (hS : c.P.underlying s = some D) (hT : c.P.underlying t = some (.int k')) (e : ev E x = some (.int k n)) :
  Yld c E R L ⟨d, .convert s t x, ty, p, af, g⟩ (.int k' (k'.wrap n)) :=
 fun _ w hf _ => by
  have r : (convert s t (.int k n)).run c.P w = .ok (.int k' (k'.wrap n)) w := by
   cases D <;> simp [convert, run_underlying hS, run_underlying hT, Conv.intToInt]
  simp [execOp, hf.ev e, r, Oper.quietUpon]
theorem Xn {x : Operand} {s t : TypeId} {k k' : IntKind} {n : Int} {D : TypeDesc} (hS : c.P.underlying s = some D) (hT : c.P.underlying t = some (.int k')) (e : ev E x = some (.int k n)) (h : k'.min ≤ n ∧ n ≤ k'.max) :
  Yld c E R L ⟨d, .convert s t x, ty, p, af, g⟩ (.int k' n) := (YS hS hT e).to (by rw [zc h])
end
def nth : List Value → Nat → Option Value
 | [], _ => none
 | x :: _, 0 => some x
 | _ :: l, n + 1 => nth l n
def ZJ : List Value → Nat → Value → List Value
 | [], _, _ => []
 | _ :: l, 0, v => v :: l
 | x :: l, n + 1, v => x :: ZJ l n v
theorem Zw (l : List Value) : ∀ n, nth l n = l[n]? := by
 induction l with
 | nil => intro n; simp [nth]
 | cons x l ih => intro n; cases n with | zero => simp [nth] | succ n => simp [nth, ih]
theorem yF (l : List Value) (v : Value) : ∀ n, ZJ l n v = l.set n v := by
 induction l with
 | nil => intro n; simp [ZJ]
 | cons x l ih => intro n; cases n with | zero => simp [ZJ] | succ n => simp [ZJ, ih]
def blk (b : Nat) (l : List Value) (e : TypeId) : Asn := pts b ⟨l⟩ e
theorem Sat.blk_heap {σ : World} {R : Hp} {L : List Asn} {w : World} {b : Nat} {l : List Value} {e : TypeId} (s : Sat σ R (blk b l e :: L) w) : w.heap[b]? = some (.cells ⟨l⟩ e (0, 0)) := s.pts_heap
theorem Sat.blk_cell {σ : World} {R : Hp} {L : List Asn} {w : World} {b : Nat} {l : List Value} {e : TypeId} (s : Sat σ R (blk b l e :: L) w) (off : Nat) : w.cell? ⟨b, off, none⟩ = nth l off := by
 simp [World.cell?, s.blk_heap, Zw]
theorem Sat.blk_frozen {σ : World} {R : Hp} {L : List Asn} {w : World} {b : Nat} {l : List Value} {e : TypeId} (s : Sat σ R (blk b l e :: L) w) (off : Nat) : w.frozen? ⟨b, off, none⟩ = false := by
 simp [World.frozen?, s.blk_heap]
theorem Sat.blk_set {σ : World} {R : Hp} {L : List Asn} {w : World} {b off : Nat} {l : List Value} {e : TypeId} (v : Value) (s : Sat σ R (blk b l e :: L) w) :
  Sat σ R (blk b (ZJ l off v) e :: L) (w.setCell ⟨b, off, none⟩ v) := by
 have := s.set (off := off) v
 rw [yF]
 simpa [blk] using this
theorem Qk1 {h : Hp} {w : World} {a : Addr} {v : Value} (k : ∀ b o, h b = some o → w.heap[b]? = some o) (e : Hp.cell h a = some v) : w.cell? a = some v := by
 unfold Hp.cell at e
 unfold World.cell?
 cases hb : h a.block with
 | none => rw [hb] at e; cases e
 | some o => rw [hb] at e; rw [k _ _ hb]; exact e
theorem Sat.ro_cell {σ : World} {R : Hp} {L : List Asn} {w : World} {a : Addr} {v : Value} (s : Sat σ R L w) (e : Hp.cell R a = some v) : w.cell? a = some v := Qk1 s.ro e
theorem Yr (b o k : Nat) : (⟨b, o, none⟩ : Addr).add k = ⟨b, o + k, none⟩ := by unfold Addr.add; split <;> simp_all
def One (P : Program) (t : TypeId) : Prop := (∀ w, (isAgg t).run P w = .ok false w) ∧ ∀ w, (sizeOf t).run P w = .ok 1 w
def qp (P : Program) (t : TypeId) (n : Nat) : Prop := (∀ w, (isAgg t).run P w = .ok true w) ∧ ∀ w, (sizeOf t).run P w = .ok n w
def QaJ (fs : Array Field) (f : Nat) : Option (TypeId × Nat) := (fs[f]?).map fun x => (x.type, x.offset)

section
variable {c : Cx} {E : Env} {R : Hp} {L : List Asn} {d : Option Tmp} {ty : TypeId} {p : String} {af : Array Edge} {g : Option (Nat × Bool)}

theorem jR {x : Operand} {t : TypeId} {b off : Nat} {v : Value} (hT : One c.P t) (e : ev E x = some (.pointer (some ⟨b, off, none⟩)))
  (hc : ∀ w, Sat c.σ R L w → w.cell? ⟨b, off, none⟩ = some v) : Yld c E R L ⟨d, .load t x, ty, p, af, g⟩ v :=
 fun a w hf hs => by
  have h := hc w hs
  have r : (Instr.loadAt t (.pointer (some ⟨b, off, none⟩))).run c.P w = .ok v w := by
   simp [Instr.loadAt, Instr.sureAddr, loadVar, hT.1, load, Sem.run, h]
  simp [execOp, hf.ev e, r, Oper.quietUpon]
theorem Qk9 {x : Operand} {t : TypeId} {b off : Nat} {l : List Value} {et : TypeId} {M : List Asn} {v : Value} (hT : One c.P t) (e : ev E x = some (.pointer (some ⟨b, off, none⟩)))
  (f : Find (blk b l et) L M) (h : nth l off = some v) : Yld c E R L ⟨d, .load t x, ty, p, af, g⟩ v :=
 jR hT e fun w hs => by rw [(hs.find f).blk_cell]; exact h
theorem Xr {x : Operand} {t : TypeId} {b off : Nat} {v : Value} (hT : One c.P t) (e : ev E x = some (.pointer (some ⟨b, off, none⟩)))
  (h : Hp.cell R ⟨b, off, none⟩ = some v) : Yld c E R L ⟨d, .load t x, ty, p, af, g⟩ v :=
 jR hT e fun _ hs => hs.ro_cell h
theorem Qab {P : Program} {w : World} {b : Nat} : ∀ (vs : List Value) (off i : Nat) (acc : Array Value), (∀ j v, vs[j]? = some v → w.cell? ⟨b, off + i + j, none⟩ = some v) →
  (loadCellsFrom ⟨b, off, none⟩ i vs.length acc).run P w = .ok (acc ++ vs.toArray) w := by
 intro vs
 induction vs with
 | nil => intro off i acc _; simp [loadCellsFrom]
 | cons v vs ih =>
  intro off i acc h
  have h0 : w.cell? ⟨b, off + i, none⟩ = some v := by simpa using h 0 v rfl
  have := ih off (i + 1) (acc.push v) (fun j u hu => by have := h (j + 1) u (by simpa using hu); rwa [show off + (i + 1) + j = off + i + (j + 1) by omega])
  simp only [List.length_cons, loadCellsFrom, Yr, Sem.run_bind]
  simp only [load, Sem.run, h0, Result.andThen_ok, this]
  simp
theorem js {x : Operand} {t : TypeId} {b off n : Nat} {vs : List Value} (hT : qp c.P t n) (hn : vs.length = n) (e : ev E x = some (.pointer (some ⟨b, off, none⟩)))
  (hc : ∀ w, Sat c.σ R L w → ∀ j v, vs[j]? = some v → w.cell? ⟨b, off + j, none⟩ = some v) : Yld c E R L ⟨d, .load t x, ty, p, af, g⟩ (.agg vs.toArray) :=
 fun a w hf hs => by
  have h := Qab (P := c.P) (w := w) (b := b) vs off 0 #[] (by simpa using hc w hs)
  have r : (Instr.loadAt t (.pointer (some ⟨b, off, none⟩))).run c.P w = .ok (.agg vs.toArray) w := by
   simp [Instr.loadAt, Instr.sureAddr, loadVar, hT.1, hT.2, loadCells, ← hn, h]
  simp [execOp, hf.ev e, r, Oper.quietUpon]
theorem QaW {x : Operand} {s ft : TypeId} {f b off k : Nat} {fs : Array Field} (hS : c.P.underlying s = some (.struct fs)) (hF : QaJ fs f = some (ft, k)) {n : Nat} (hn : n ≠ 0) (hZ : ∀ w, (sizeOf ft).run c.P w = .ok n w)
  (e : ev E x = some (.pointer (some ⟨b, off, none⟩))) : Yld c E R L ⟨d, .fieldAddr s x f, ty, p, af, g⟩ (.pointer (some ⟨b, off + k, none⟩)) :=
 fun a w hf _ => by
  unfold QaJ at hF
  cases hx : fs[f]? with
  | none => rw [hx] at hF; cases hF
  | some fd =>
   rw [hx] at hF
   simp only [Option.map_some, Option.some.injEq, Prod.mk.injEq] at hF
   have hz : (sizeOf fd.type).run c.P w = .ok n w := by rw [hF.1]; exact hZ w
   have r : (Instr.fieldAt s (.pointer (some ⟨b, off, none⟩)) f).run c.P w = .ok (.pointer (some ⟨b, off + k, none⟩)) w := by
    simp [Instr.fieldAt, run_underlying hS, hx, Instr.sureAddr, fieldPlace, hz, hn, Yr, hF.2]
   simp [execOp, hf.ev e, r, Oper.quietUpon]
def Qb2 (pl : List (Nat × Nat)) : List Value → List (Nat × List Value) → Option (List Value)
 | cs, [] => some cs
 | cs, (i, vs) :: rest =>
  match pl[i]? with
  | none => none
  | some (off, size) => cond (vs.length == size && Nat.ble (off + vs.length) cs.length) (Qb2 pl (cs.take off ++ vs ++ cs.drop (off + vs.length)) rest) none
def Qb9 : List (Nat × Value) → List (Nat × List Value)
 | [] => []
 | (i, v) :: l => (i, v.cells.toList) :: Qb9 l
theorem QhZ (l : List (Nat × Value)) : Qb9 l = l.map fun x => (x.1, x.2.cells.toList) := by
 induction l with
 | nil => rfl
 | cons x l ih => obtain ⟨i, v⟩ := x; simp [Qb9, ih]
def evp (E : Env) : List (Nat × Operand) → Option (List (Nat × Value))
 | [] => some []
 | (i, x) :: l => match ev E x, evp E l with
  | some v, some vs => some ((i, v) :: vs)
  | _, _ => none
theorem Fr.evp {n : Nat} {E : Env} {a : Act} (h : Fr n E a) : ∀ {l : List (Nat × Operand)} {vs : List (Nat × Value)}, V.evp E l = some vs → (l.map fun x => (x.1, a.eval x.2)) = vs
 | [], vs, e => by simp only [V.evp, Option.some.injEq] at e; subst e; rfl
 | (i, x) :: l, vs, e => by
  simp only [V.evp] at e
  split at e
  ·rename_i v us h1 h2
   simp only [Option.some.injEq] at e; subst e
   simp [h.ev h1, h.evp h2]
  ·cases e
theorem Qc7 (vs : List Value) : ∀ (k off : Nat) (cs : List Value), off + k + vs.length ≤ cs.length →
  (vs.zipIdx k).foldl (fun (cs : Array Value) (x : Value × Nat) => cs.setIfInBounds (off + x.2) x.1) cs.toArray = (cs.take (off + k) ++ vs ++ cs.drop (off + k + vs.length)).toArray := by
 induction vs with
 | nil => intro k off cs _; simp
 | cons v vs ih =>
  intro k off cs h
  simp only [List.length_cons] at h
  simp only [List.zipIdx_cons, List.foldl_cons, List.setIfInBounds_toArray]
  have := ih (k + 1) off (cs.set (off + k) v) (by simp; omega)
  simp only [Nat.add_assoc] at this ⊢
  rw [this]
  congr 1
  rw [List.take_set, List.drop_set_of_lt (by omega), List.length_cons]
  have e1 : (cs.take (off + (k + 1))).set (off + k) v = cs.take (off + k) ++ [v] := by
   have : off + (k + 1) = off + k + 1 := by omega
   rw [this, List.take_succ_eq_append_getElem (by omega), List.set_append_right _ _ (by simp; omega)]
   simp [Nat.min_eq_left (by omega : off + k ≤ cs.length)]
  rw [e1]
  simp [show off + (k + (vs.length + 1)) = off + (k + (1 + vs.length)) by omega]
theorem QkM (pl : List (Nat × Nat)) : ∀ (vs : List (Nat × Value)) (cs out : List Value), Qb2 pl cs (vs.map fun x => (x.1, x.2.cells.toList)) = some out →
  Instr.fill (fun i => pl[i]?) cs.toArray vs = some out.toArray := by
 intro vs
 induction vs with
 | nil => intro cs out h; simp only [List.map_nil, Qb2, Option.some.injEq] at h; subst h; rfl
 | cons x vs ih =>
  intro cs out h
  obtain ⟨i, v⟩ := x
  simp only [List.map_cons, Qb2] at h
  simp only [Instr.fill]
  cases hp : pl[i]? with
  | none => rw [hp] at h; cases h
  | some q =>
   obtain ⟨off, size⟩ := q
   rw [hp] at h
   simp only at h ⊢
   cases hb : (v.cells.toList.length == size && Nat.ble (off + v.cells.toList.length) cs.length) with
   | false => rw [hb] at h; cases h
   | true =>
    rw [hb] at h
    simp only [cond_true] at h
    simp only [Bool.and_eq_true, beq_iff_eq, Array.length_toList] at hb
    obtain ⟨h1, h2⟩ := hb
    have h2' : off + v.cells.size ≤ cs.length := by simpa using Nat.le_of_ble_eq_true h2
    rw [if_neg (by simp [h1]; omega)]
    have := Qc7 v.cells.toList 0 off cs (by simpa using h2')
    simp only [Nat.add_zero] at this
    rw [← ih _ _ h]
    congr 1
    rw [← this]
    have : v.cells.zipIdx = (v.cells.toList.zipIdx 0).toArray := by
     apply Array.ext'; simp
    rw [this]
    simp
theorem QW {t : TypeId} {parts : List (Nat × Operand)} {fs : List Field} {vs : List (Nat × Value)} {z : Value} {cells : List Value} (pl : List (Nat × Nat)) (hS : c.P.underlying t = some (.struct ⟨fs⟩)) (hz : ∀ w, (zeroValue t).run c.P w = .ok z w)
  (hpl : ∀ w, (fs.mapM fun f => (do pure (f.offset, ← sizeOf f.type) : Sem (Nat × Nat))).run c.P w = .ok pl w)
  (hv : evp E parts = some vs)
  (hf : Qb2 pl z.cells.toList (Qb9 vs) = some cells) : Yld c E R L ⟨d, .build t ⟨parts⟩, ty, p, af, g⟩ (.agg ⟨cells⟩) :=
 fun a w ha _ => by
  have hv' := ha.evp hv
  rw [QhZ] at hf
  have hm : ((Array.mk fs).mapM fun f => (do pure (f.offset, ← sizeOf f.type) : Sem (Nat × Nat))).run c.P w = .ok pl.toArray w := by
   have e : (Array.mk fs) = fs.toArray := rfl
   rw [e, List.mapM_toArray]
   simp only [map_eq_pure_bind, Sem.run_bind] at hpl ⊢
   rw [hpl w]
   simp
  have hfl := QkM pl vs z.cells.toList cells hf
  have r : (Instr.build t ⟨vs⟩).run c.P w = .ok (.agg ⟨cells⟩) w := by
   unfold Instr.build
   simp only [Sem.run_bind, hz, Result.andThen_ok, run_underlying hS, hm]
   have e2 : (fun i : Nat => pl.toArray[i]?) = fun i : Nat => pl[i]? := by funext i; simp
   rw [e2]
   have e3 : z.cells = z.cells.toList.toArray := by simp
   rw [e3, hfl]
   simp
  have e : (Array.mk parts).map (fun x => (x.1, a.eval x.2)) = ⟨vs⟩ := by
   rw [← hv']; simp
  simp only [execOp]
  rw [show (Array.map (fun x => match x with | (i, x) => (i, a.eval x)) (Array.mk parts)) = (Array.mk parts).map (fun x => (x.1, a.eval x.2)) from rfl, e]
  simp [r, Oper.quietUpon]
end
def Tri (P : Program) (f : FuncId) (args : List Value) (R : Hp) (L : List Asn) (post : Value → Hp → List Asn → Prop) (pan : List PanicEntry → Hp → List Asn → Prop := fun _ _ _ => False) : Prop :=
 ∀ σ F w, Sat σ R (L ++ F) w → Calls P f ⟨args⟩ w fun e w' => ∃ R' L', R.le R' ∧ Sat σ R' (L' ++ F) w' ∧
  match e with
  | .returned v => post v R' L'
  | .panicked ch => pan ch R' L'
  | .outgrown => False
def QTri (P : Program) (f : FuncId) (args : List Value) (R : Hp) (L : List Asn) (v : Value) : Prop :=
 ∀ σ F w, Sat σ R (L ++ F) w → Calls P f ⟨args⟩ w fun e w' => e = .returned v ∧ Sat σ R (L ++ F) w'
theorem Tri.q {P : Program} {f : FuncId} {args : List Value} {R : Hp} {L : List Asn} {v : Value} (h : Tri P f args R L (fun u R' L' => u = v ∧ R' = R ∧ L' = L)) : QTri P f args R L v :=
 fun σ F w hs => (h σ F w hs).mono fun e w' ⟨R', L', _, hw, hp⟩ => by
  cases e with
  | returned u => obtain ⟨rfl, rfl, rfl⟩ := hp; exact ⟨rfl, hw⟩
  | panicked ch => exact hp.elim
  | outgrown => exact hp.elim
theorem Tri.mono {P : Program} {f : FuncId} {args : List Value} {R : Hp} {L : List Asn} {p p' : Value → Hp → List Asn → Prop} {q q' : List PanicEntry → Hp → List Asn → Prop} (h : Tri P f args R L p q)
  (k : ∀ v R' L', R.le R' → p v R' L' → p' v R' L') (k' : ∀ v R' L', R.le R' → q v R' L' → q' v R' L') : Tri P f args R L p' q' :=
 fun σ F w hs => (h σ F w hs).mono fun e w' ⟨R', L', hR, hw, hp⟩ => ⟨R', L', hR, hw, by cases e with | returned v => exact k _ _ _ hR hp | panicked ch => exact k' _ _ _ hR hp | outgrown => exact hp⟩
inductive Split : List Asn → List Asn → List Asn → Prop
 | nil (L : List Asn) : Split L [] L
 | cons {A : Asn} {L L1 pre F : List Asn} : Find A L L1 → Split L1 pre F → Split L (A :: pre) F
theorem zN (L : List Asn) : Split L [] L := .nil L
theorem zS {A : Asn} {L L1 pre F : List Asn} (h : Find A L L1) (k : Split L1 pre F) : Split L (A :: pre) F := .cons h k
theorem Split.stars {L pre F : List Asn} (s : Split L pre F) : ∀ {h : Hp}, V.stars L h → V.stars (pre ++ F) h := by
 induction s with
 | nil L => exact fun s => s
 | cons f _ ih => intro h s; obtain ⟨h1, h2, a, b, c, d, e⟩ := f.stars s; exact ⟨h1, h2, a, b, c, d, ih e⟩
theorem Split.back {L pre F : List Asn} (s : Split L pre F) : ∀ {h : Hp}, V.stars (pre ++ F) h → V.stars L h := by
 induction s with
 | nil L => exact fun s => s
 | cons f _ ih => rintro h ⟨h1, h2, a, b, c, d, e⟩; exact f.back ⟨h1, h2, a, b, c, d, ih e⟩
theorem Split.sat {L pre F : List Asn} (s : Split L pre F) {σ : World} {R : Hp} {w : World} (h : Sat σ R L w) : Sat σ R (pre ++ F) w :=
 ⟨h.os, h.tape, h.output, h.ro, let ⟨g, a, b, c⟩ := h.own; ⟨g, a, b, s.stars c⟩⟩
theorem Split.satBack {L pre F : List Asn} (s : Split L pre F) {σ : World} {R : Hp} {w : World} (h : Sat σ R (pre ++ F) w) : Sat σ R L w :=
 ⟨h.os, h.tape, h.output, h.ro, let ⟨g, a, b, c⟩ := h.own; ⟨g, a, b, s.back c⟩⟩
def evs (E : Env) : List Operand → Option (List Value)
 | [] => some []
 | x :: xs => match ev E x, evs E xs with
  | some v, some vs => some (v :: vs)
  | _, _ => none
theorem Fr.evs {n : Nat} {E : Env} {a : Act} (h : Fr n E a) : ∀ {xs : List Operand} {vs : List Value}, V.evs E xs = some vs → xs.map a.eval = vs
 | [], vs, e => by simp only [V.evs, Option.some.injEq] at e; subst e; rfl
 | x :: xs, vs, e => by
  simp only [V.evs] at e
  split at e
  ·rename_i v us h1 h2
   simp only [Option.some.injEq] at e; subst e
   simp [h.ev h1, h.evs h2]
  ·cases e

section
variable {c : Cx} {ops : Array Oper} {Q : Exit → Act → World → Prop} {E : Env} {R : Hp} {L : List Asn} {rest : List Oper} {ty : TypeId} {p : String} {af : Array Edge} {g : Option (Nat × Bool)}

theorem QdN {a : Act} {w : World} {d : Option Tmp} {f : FuncId} {xs : List Operand} {ts : Array TypeId} {vs : List Value} (hc : ∀ args w, (callFunc f args).run c.P w = .ok (.enter f args) w)
  (hv : xs.map a.eval = vs) : (execOp a.eval ⟨d, .call { callee := .value (.func f), args := ⟨xs⟩, argTypes := ts }, ty, p, af, g⟩).run c.P w = .ok (.enter f ⟨vs⟩) w := by
 have e : (Array.mk xs).map a.eval = ⟨vs⟩ := by rw [← hv]; simp
 simp [execOp, resolve, Act.eval, Deferred.ofValue, invoke, e, hc]
theorem Qlb {d : Option Tmp} {f : FuncId} {xs : List Operand} {ts : Array TypeId} {vs : List Value} {pre F : List Asn} {v : Value} (hc : ∀ args w, (callFunc f args).run c.P w = .ok (.enter f args) w)
  (hv : evs E xs = some vs) (ht : QTri c.P f vs R pre v) (hs : Split L pre F) : Yld c E R L ⟨d, .call { callee := .value (.func f), args := ⟨xs⟩, argTypes := ts }, ty, p, af, g⟩ v :=
 fun a w hf hw => by
  rw [QdN hc (hf.evs hv)]
  exact ⟨rfl, (ht _ _ _ (hs.sat hw)).mono fun e w' ⟨h1, h2⟩ => ⟨h1, hs.satBack h2⟩⟩
theorem XP {d : Nat} {f : FuncId} {xs : List Operand} {ts : Array TypeId} {vs : List Value} {pre F : List Asn} {post : Value → Hp → List Asn → Prop} {pan : List PanicEntry → Hp → List Asn → Prop}
  (hw : Wn c ops E ⟨some d, .call { callee := .value (.func f), args := ⟨xs⟩, argTypes := ts }, ty, p, af, g⟩ true) (hn : Nat.blt d c.n = true) (hc : ∀ args w, (callFunc f args).run c.P w = .ok (.enter f args) w)
  (hv : evs E xs = some vs) (ht : Tri c.P f vs R pre post pan) (hs : Split L pre F)
  (hp : ∀ ch R' L', R.le R' → pan ch R' L' → EJ c (Q (.panic ch)) E R' (L' ++ F))
  (h : ∀ v R' L', R.le R' → post v R' L' → RJ c ops Q rest ((d, v) :: E) R' (L' ++ F)) :
  RJ c ops Q (⟨some d, .call { callee := .value (.func f), args := ⟨xs⟩, argTypes := ts }, ty, p, af, g⟩ :: rest) E R L := by
 intro a w hf hsat
 unfold wpList
 rw [if_pos (hw a hf)]
 refine .inl ?_
 unfold Oper.wp
 rw [QdN hc (hf.evs hv)]
 simp only [Oper.upon]
 refine (ht _ _ _ (hs.sat hsat)).mono fun e w' ⟨R', L', hR, hw', hpost⟩ => ?_
 cases e with
 | returned v => exact h v R' L' hR hpost _ _ (hf.put hn v) hw'
 | panicked ch => exact hp ch R' L' hR hpost _ _ hf hw'
 | outgrown => exact hpost.elim
theorem Qhc {o : Oper} {d : Nat} {v : Value} {L' : List Asn} (hw : Wn c ops E o true) (hd : o.dst = some d) (hn : Nat.blt d c.n = true)
  (hr : ∀ a w, Fr c.n E a → Sat c.σ R L w → ∃ w', (execOp a.eval o).run c.P w = .ok (.value v) w' ∧ Sat c.σ R L' w') (h : RJ c ops Q rest ((d, v) :: E) R L') : RJ c ops Q (o :: rest) E R L := by
 intro a w hf hs
 unfold wpList
 rw [if_pos (hw a hf)]
 refine .inl ?_
 obtain ⟨w', h1, h2⟩ := hr a w hf hs
 unfold Oper.wp
 rw [h1]
 simp only [Oper.upon, hd]
 exact h _ _ (hf.put hn v) h2
theorem jf {o : Oper} {L' : List Asn} (hw : Wn c ops E o true) (hd : o.dst = none)
  (hr : ∀ a w, Fr c.n E a → Sat c.σ R L w → ∃ w', (execOp a.eval o).run c.P w = .ok .skip w' ∧ Sat c.σ R L' w') (h : RJ c ops Q rest E R L') : RJ c ops Q (o :: rest) E R L := by
 intro a w hf hs
 unfold wpList
 rw [if_pos (hw a hf)]
 refine .inl ?_
 obtain ⟨w', h1, h2⟩ := hr a w hf hs
 unfold Oper.wp
 rw [h1]
 simp only [Oper.upon, hd]
 exact h _ _ hf h2
theorem Qae {o : Oper} {d : Nat} {v : Nat → Value} {L' : Nat → List Asn} (hw : Wn c ops E o true) (hd : o.dst = some d) (hn : Nat.blt d c.n = true)
  (hr : ∀ a w, Fr c.n E a → Sat c.σ R L w → ∃ b w', (execOp a.eval o).run c.P w = .ok (.value (v b)) w' ∧ Sat c.σ R (L' b) w') (h : ∀ b, RJ c ops Q rest ((d, v b) :: E) R (L' b)) : RJ c ops Q (o :: rest) E R L := by
 intro a w hf hs
 unfold wpList
 rw [if_pos (hw a hf)]
 refine .inl ?_
 obtain ⟨b, w', h1, h2⟩ := hr a w hf hs
 unfold Oper.wp
 rw [h1]
 simp only [Oper.upon, hd]
 exact h b _ _ (hf.put hn _) h2
theorem Qck {P : Program} {σ : World} {et : TypeId} {b off : Nat} : ∀ (vs : List Value) (i : Nat) (l : List Value) (w : World), Sat σ R (blk b l et :: L) w → off + i + vs.length ≤ l.length → (∀ v ∈ vs, v.oneCell' = true) →
  ∃ w', (storeCells ⟨b, off, none⟩ vs i).run P w = .ok () w' ∧ Sat σ R (blk b (l.take (off + i) ++ vs ++ l.drop (off + i + vs.length)) et :: L) w' := by
 intro vs i l w hs hl h1
 have hr := run_storeCells_at P b off et vs i ⟨l⟩ w hs.blk_heap hl h1
 refine ⟨_, hr, ?_⟩
 exact hs.setRow _
theorem QdT {x y : Operand} {t et : TypeId} {b off : Nat} {l l' : List Value} {M : List Asn} {v : Value} (hT : One c.P t)
  (hw : Wn c ops E ⟨none, .store t x y, ty, p, af, g⟩ true) (e1 : ev E x = some (.pointer (some ⟨b, off, none⟩))) (e2 : ev E y = some v) (hv : v.oneCell' = true)
  (f : Find (blk b l et) L M) (hl : Nat.blt off l.length = true) (he : ZJ l off v = l') (h : RJ c ops Q rest E R (blk b l' et :: M)) : RJ c ops Q (⟨none, .store t x y, ty, p, af, g⟩ :: rest) E R L := by
 refine jf hw rfl (fun a w hf hs => ?_) h
 have hs' := hs.find f
 have hlt : off < l.length := Nat.lt_of_lt_of_le (Nat.lt_succ_self _) (Nat.le_of_ble_eq_true hl)
 have hc : v.cells = #[v] := by cases v <;> first | rfl | simp [Value.oneCell'] at hv
 have hcell := hs'.blk_cell off
 have hfz := hs'.blk_frozen off
 have hn : nth l off = some l[off] := by rw [Zw]; simp [hlt]
 rw [hn] at hcell
 have hst : (store ⟨b, off, none⟩ v).run c.P w = .ok () (w.setCell ⟨b, off, none⟩ v) := by
  cases v <;> first | (simp [Value.oneCell'] at hv; done) | simp [store, Sem.run, hcell, hfz]
 have hset : Sat c.σ R (blk b l' et :: M) (w.setCell ⟨b, off, none⟩ v) := he ▸ hs'.blk_set v
 refine ⟨_, ?_, hset⟩
 simp [execOp, hf.ev e1, hf.ev e2, Instr.storeAt, Instr.sureAddr, storeVar, hT.2, hc, storeCells, Yr, hst]
theorem Qw {x y : Operand} {t et : TypeId} {b off n : Nat} {l l' : List Value} {M : List Asn} {vs : List Value} (hT : qp c.P t n) (hn : vs.length = n)
  (hw : Wn c ops E ⟨none, .store t x y, ty, p, af, g⟩ true) (e1 : ev E x = some (.pointer (some ⟨b, off, none⟩))) (e2 : ev E y = some (.agg ⟨vs⟩)) (hv : ∀ v ∈ vs, v.oneCell' = true)
  (f : Find (blk b l et) L M) (hl : off + vs.length ≤ l.length) (he : l.take off ++ vs ++ l.drop (off + vs.length) = l') (h : RJ c ops Q rest E R (blk b l' et :: M)) : RJ c ops Q (⟨none, .store t x y, ty, p, af, g⟩ :: rest) E R L := by
 refine jf hw rfl (fun a w hf hs => ?_) h
 obtain ⟨w', h1, h2⟩ := Qck (P := c.P) (off := off) vs 0 l w (hs.find f) (by simpa using hl) hv
 simp only [Nat.add_zero] at h2
 refine ⟨w', ?_, he ▸ h2⟩
 simp [execOp, hf.ev e1, hf.ev e2, Instr.storeAt, Instr.sureAddr, storeVar, hT.2, Value.cells, hn, h1]
theorem Xd {d : Nat} {x : Operand} {t : TypeId} {v : Value} {l : List Value} (hw : Wn c ops E ⟨some d, .box t x, ty, p, af, g⟩ true) (hn : Nat.blt d c.n = true) (e : ev E x = some v) (hv : v.cells = ⟨l⟩)
  (h : ∀ b, RJ c ops Q rest ((d, .pointer (some ⟨b, 0, none⟩)) :: E) R (blk b l t :: L)) : RJ c ops Q (⟨some d, .box t x, ty, p, af, g⟩ :: rest) E R L := by
 refine Qae (v := fun b => .pointer (some ⟨b, 0, none⟩)) (L' := fun b => blk b l t :: L) hw rfl hn (fun a w hf hs => ⟨w.heap.size, w.alloc (.cells ⟨l⟩ t (0, 0)), ?_, hs.alloc _⟩) h
 simp [execOp, hf.ev e, Instr.box, newVar, newRow, hv]
theorem QD {d : Nat} {t : TypeId} {z : Value} {l : List Value} (hw : Wn c ops E ⟨some d, .alloc t, ty, p, af, g⟩ true) (hn : Nat.blt d c.n = true) (hz : ∀ w, (zeroValue t).run c.P w = .ok z w) (hv : z.cells = ⟨l⟩)
  (h : ∀ b, RJ c ops Q rest ((d, .pointer (some ⟨b, 0, none⟩)) :: E) R (blk b l t :: L)) : RJ c ops Q (⟨some d, .alloc t, ty, p, af, g⟩ :: rest) E R L := by
 refine Qae (v := fun b => .pointer (some ⟨b, 0, none⟩)) (L' := fun b => blk b l t :: L) hw rfl hn (fun a w hf hs => ⟨w.heap.size, w.alloc (.cells ⟨l⟩ t (0, 0)), ?_, hs.alloc _⟩) h
 simp [execOp, Instr.alloc, newVar, newRow, hv, hz]
end
def QaK : Nat → List Value → Env
 | _, [] => []
 | i, v :: vs => (i, v) :: QaK (i + 1) vs
theorem Qd9 : ∀ (vs : List Value) (i t : Nat) (v : Value), lk (QaK i vs) t = some v → i ≤ t ∧ vs[t - i]? = some v
 | [], _, _, _, h => by cases h
 | u :: vs, i, t, v, h => by
  simp only [QaK, lk] at h
  cases hb : Nat.beq i t with
  | true => rw [hb] at h; obtain rfl := Nat.eq_of_beq_eq_true hb; simp only [cond_true, Option.some.injEq] at h; subst h; simp
  | false =>
   rw [hb] at h
   have hne : i ≠ t := Nat.ne_of_beq_eq_false hb
   obtain ⟨h1, h2⟩ := Qd9 vs (i + 1) t v h
   refine ⟨by omega, ?_⟩
   rw [show t - i = (t - (i + 1)) + 1 by omega]
   simpa using h2
theorem Fr.start {n : Nat} {args : List Value} (h : Nat.ble args.length n = true) : Fr n (QaK 0 args) { tmps := (⟨args⟩ : Array Value) ++ Array.replicate (n - (⟨args⟩ : Array Value).size) undef, defers := [] } := by
 have hle := Nat.le_of_ble_eq_true h
 refine ⟨by simp; omega, rfl, fun t v e => ?_⟩
 obtain ⟨_, h2⟩ := Qd9 args 0 t v e
 simp only [Nat.sub_zero] at h2
 have hlt : t < args.length := by
  rcases Nat.lt_or_ge t args.length with k | k
  ·exact k
  ·rw [List.getElem?_eq_none k] at h2; cases h2
 rw [Array.getD_eq_getD_getElem?, Array.getElem?_append_left (by simpa using hlt)]
 simp [h2]
def zV (P : Program) (fn : Func) (σ : World) (R0 : Hp) (F : List Asn) (post : Value → Hp → List Asn → Prop) (pan : List PanicEntry → Hp → List Asn → Prop) : Exit → Act → World → Prop :=
 bodyPost P fn fun e w' => ∃ R' L', R0.le R' ∧ Sat σ R' (L' ++ F) w' ∧
  match e with
  | .returned v => post v R' L'
  | .panicked ch => pan ch R' L'
  | .outgrown => False
theorem Qn {P : Program} {f n : Nat} {fn : Func} {body : Code} {args : List Value} {R : Hp} {L : List Asn} {post : Value → Hp → List Asn → Prop} {pan : List PanicEntry → Hp → List Asn → Prop}
  (hf : P.funcs[f]? = some fn) (hb : fn.body = some body) (hn : fn.ntmps = n) (ha : Nat.ble args.length n = true)
  (h : ∀ σ F (Q : Exit → Act → World → Prop), (∀ E R1 L1, EJ ⟨P, n, σ⟩ (zV P fn σ R F post pan .ret) E R1 L1 → EJ ⟨P, n, σ⟩ (Q .ret) E R1 L1) → (∀ E R1 L1, EJ ⟨P, n, σ⟩ (zV P fn σ R F post pan .normal) E R1 L1 → EJ ⟨P, n, σ⟩ (Q .normal) E R1 L1) →
   (∀ ch E R1 L1, EJ ⟨P, n, σ⟩ (zV P fn σ R F post pan (.panic ch)) E R1 L1 → EJ ⟨P, n, σ⟩ (Q (.panic ch)) E R1 L1) → CJ ⟨P, n, σ⟩ body Q (QaK 0 args) R (L ++ F)) : Tri P f args R L post pan :=
 fun σ F w hs => calls_of_wp hf hb (by rw [hn]; exact h σ F _ (fun _ _ _ k => k) (fun _ _ _ k => k) (fun _ _ _ _ k => k) _ w (Fr.start ha) hs)
def Qcm (a : Act) (r : ResultVar) : Sem Value :=
 match r with
 | .tmp t => pure (a.tmps.getD t undef)
 | .cell x t => do loadVar t (← asAddr (a.tmps.getD x undef))
def RV (c : Cx) (E : Env) (R : Hp) (L : List Asn) (r : ResultVar) (v : Value) : Prop :=
 ∀ (a : Act) (w : World), Fr c.n E a → Sat c.σ R L w → (Qcm a r).run c.P w = .ok v w
section
variable {c : Cx} {E : Env} {R R0 : Hp} {L F : List Asn} {fn : Func} {post : Value → Hp → List Asn → Prop} {pan : List PanicEntry → Hp → List Asn → Prop}
theorem Qh {t : Nat} {v : Value} (e : lk E t = some v) : RV c E R L (.tmp t) v := fun a w hf _ => by
 have := hf.get t v e
 simp [Qcm, this]
inductive RVs (c : Cx) (E : Env) (R : Hp) (L : List Asn) : List ResultVar → List Value → Prop
 | nil : RVs c E R L [] []
 | cons {r : ResultVar} {v : Value} {rs : List ResultVar} {vs : List Value} : RV c E R L r v → RVs c E R L rs vs → RVs c E R L (r :: rs) (v :: vs)
def QF : List Value → Value
 | [v] => v
 | vs => .tuple ⟨vs⟩
theorem RVs.run {rs : List ResultVar} {vs : List Value} (h : RVs c E R L rs vs) {a : Act} {w : World} (hf : Fr c.n E a) (hs : Sat c.σ R L w) :
  (rs.mapM (Qcm a)).run c.P w = .ok vs w := by
 induction h with
 | nil => simp
 | cons hr _ ih =>
  have h1 := hr a w hf hs
  simp only [List.mapM_cons, Sem.run_bind, h1, Result.andThen_ok, ih, Sem.run_pure]
theorem XO {rs : List ResultVar} {vs : List Value} (hr : fn.results = ⟨rs⟩) (hv : RVs c E R L rs vs) (R' : Hp) (L' : List Asn) (hR : R0.le R') (hRR : R' = R) (hS : Sub L (L' ++ F)) (hp : post (QF vs) R' L') :
  EJ c (zV c.P fn c.σ R0 F post pan .ret) E R L := by
 intro a w hf hs
 refine ⟨hf.dfs, QF vs, ?_, R', L', hR, by rw [hRR]; exact hs.sub hS, hp⟩
 have := hv.run hf hs
 have e : results fn a.tmps = (do
   let us ← (⟨rs⟩ : Array ResultVar).mapM (Qcm a)
   pure (if h : us.size = 1 then us[0] else .tuple us)) := by unfold results; rw [hr]; rfl
 rw [e, show (⟨rs⟩ : Array ResultVar) = rs.toArray from rfl, List.mapM_toArray]
 simp only [map_eq_pure_bind, Sem.run_bind] at this ⊢
 rw [this]
 simp only [Result.andThen_ok, Sem.run_pure]
 congr 1
 cases vs with
 | nil => simp [QF]
 | cons v vs => cases vs with
  | nil => simp [QF]
  | cons u vs => simp [QF]
theorem QT {rs : List ResultVar} {vs : List Value} (hr : fn.results = ⟨rs⟩) (hv : RVs c E R L rs vs) (R' : Hp) (L' : List Asn) (hR : R0.le R') (hRR : R' = R) (hS : Sub L (L' ++ F)) (hp : post (QF vs) R' L') :
  EJ c (zV c.P fn c.σ R0 F post pan .normal) E R L := XO (c := c) (pan := pan) hr hv R' L' hR hRR hS hp
theorem YD {ch : List PanicEntry} (R' : Hp) (L' : List Asn) (hR : R0.le R') (hRR : R' = R) (hS : Sub L (L' ++ F)) (hp : pan ch R' L') :
  EJ c (zV c.P fn c.σ R0 F post pan (.panic ch)) E R L := fun _ _ hf hs => ⟨hf.dfs, R', L', hR, by rw [hRR]; exact hs.sub hS, hp⟩
end
section
variable {c : Cx} {E : Env} {R : Hp} {L : List Asn} {d : Option Tmp} {ty : TypeId} {p : String} {af : Array Edge} {g : Option (Nat × Bool)}
theorem Qcn {P : Program} (n : Nat) {t e : TypeId} {q : Option Addr} {w : World} (hT : P.underlying t = some (.pointer e)) : (Op.equalIn (n + 1) t (.pointer q) (.pointer none)).run P w = .ok q.isNone w := by
 cases q <;> simp [Op.equalIn, run_underlying hT]
theorem Qac {P : Program} {t e : TypeId} {q : Option Addr} {w : World} (hT : P.underlying t = some (.pointer e)) : (Op.equal t (.pointer q) (.pointer none)).run P w = .ok q.isNone w := Qcn 9999 hT
theorem XZ {x y : Operand} {t t' e : TypeId} {q : Option Addr} (hT : c.P.underlying t = some (.pointer e)) (e1 : ev E x = some (.pointer q)) (e2 : ev E y = some (.pointer none)) :
  Yld c E R L ⟨d, .binOp .eql t x y t', ty, p, af, g⟩ (.bool q.isNone) :=
 fun _ w hf _ => by simp [execOp, hf.ev e1, hf.ev e2, eqGuard, binOp, Qac hT, Oper.quietUpon]
theorem qS {x y : Operand} {t t' e : TypeId} {q : Option Addr} (hT : c.P.underlying t = some (.pointer e)) (e1 : ev E x = some (.pointer q)) (e2 : ev E y = some (.pointer none)) :
  Yld c E R L ⟨d, .binOp .neq t x y t', ty, p, af, g⟩ (.bool (!q.isNone)) :=
 fun _ w hf _ => by simp [execOp, hf.ev e1, hf.ev e2, eqGuard, binOp, Qac hT, Oper.quietUpon]
def qj (k : IntKind) (m n : Int) : Int := k.wrap ((BitVec.ofInt k.bits m ||| BitVec.ofInt k.bits n).toNat : Int)
def Qcb (k : IntKind) (m n : Int) : Int := k.wrap ((BitVec.ofInt k.bits m &&& BitVec.ofInt k.bits n).toNat : Int)
theorem Qch {x y : Operand} {t t' : TypeId} {k : IntKind} {m n : Int} (e1 : ev E x = some (.int k m)) (e2 : ev E y = some (.int k n)) :
  Yld c E R L ⟨d, .binOp .or t x y t', ty, p, af, g⟩ (.int k (qj k m n)) :=
 fun _ w hf _ => by simp [execOp, hf.ev e1, hf.ev e2, eqGuard, binOp, Op.intBits, Oper.quietUpon, qj]
theorem Qmc {x y : Operand} {t t' : TypeId} {k : IntKind} {m n : Int} (e1 : ev E x = some (.int k m)) (e2 : ev E y = some (.int k n)) :
  Yld c E R L ⟨d, .binOp .and t x y t', ty, p, af, g⟩ (.int k (Qcb k m n)) :=
 fun _ w hf _ => by simp [execOp, hf.ev e1, hf.ev e2, eqGuard, binOp, Op.intBits, Oper.quietUpon, Qcb]
theorem QbG {x y : Operand} {t t' : TypeId} {k k' : IntKind} {m n : Int} (e1 : ev E x = some (.int k m)) (e2 : ev E y = some (.int k' n)) (h : 0 ≤ n) :
  Yld c E R L ⟨d, .binOp .shl t x y t', ty, p, af, g⟩ (.int k (k.wrap (m * 2 ^ min n.toNat k.bits))) :=
 fun _ w hf _ => by
  have : ¬ n < 0 := by omega
  simp [execOp, hf.ev e1, hf.ev e2, eqGuard, binOp, Op.shift, this, Oper.quietUpon]
theorem yR {x y : Operand} {t t' : TypeId} {k k' : IntKind} {m n : Int} (e1 : ev E x = some (.int k m)) (e2 : ev E y = some (.int k' n)) (h : 0 ≤ n) :
  Yld c E R L ⟨d, .binOp .shr t x y t', ty, p, af, g⟩ (.int k (m.fdiv (2 ^ min n.toNat k.bits))) :=
 fun _ w hf _ => by
  have : ¬ n < 0 := by omega
  simp [execOp, hf.ev e1, hf.ev e2, eqGuard, binOp, Op.shift, this, Oper.quietUpon]
theorem Qdk {x y : Operand} {t t' : TypeId} {k : IntKind} {m n : Int} (e1 : ev E x = some (.int k m)) (e2 : ev E y = some (.int k n)) (h : n ≠ 0) :
  Yld c E R L ⟨d, .binOp .rem t x y t', ty, p, af, g⟩ (.int k (m.tmod n)) :=
 fun _ w hf _ => by simp [execOp, hf.ev e1, hf.ev e2, eqGuard, binOp, Op.intDiv, h, Oper.quietUpon]
theorem Qdl {x y : Operand} {t t' : TypeId} {k : IntKind} {m n : Int} (e1 : ev E x = some (.int k m)) (e2 : ev E y = some (.int k n)) (h : n ≠ 0) :
  Yld c E R L ⟨d, .binOp .quo t x y t', ty, p, af, g⟩ (.int k (k.wrap (m.tdiv n))) :=
 fun _ w hf _ => by simp [execOp, hf.ev e1, hf.ev e2, eqGuard, binOp, Op.intDiv, h, Oper.quietUpon]
theorem Qh8 {f : FuncId} {xs : List Operand} {ts : Array TypeId} {vs : List Value} {v : Value} (hv : evs E xs = some vs)
  (hr : ∀ w, Sat c.σ R L w → (callFunc f ⟨vs⟩).run c.P w = .ok (.value v) w) : Yld c E R L ⟨d, .call { callee := .value (.func f), args := ⟨xs⟩, argTypes := ts }, ty, p, af, g⟩ v :=
 fun a w hf hs => by
  have e : (Array.mk xs).map a.eval = ⟨vs⟩ := by rw [← hf.evs hv]; simp
  simp [execOp, resolve, Act.eval, Deferred.ofValue, invoke, e, hr w hs, Oper.quietUpon]
end
section
variable {c : Cx} {E : Env} {R : Hp} {L : List Asn} {d : Option Tmp} {ty : TypeId} {p : String} {af : Array Edge} {g : Option (Nat × Bool)}
theorem QB {x : Operand} {t e : TypeId} {q : Option Addr} {n k : Nat} (hT : c.P.underlying t = some (.slice e)) (e1 : ev E x = some (.slice q n k)) :
  Yld c E R L ⟨d, .call { callee := .builtin .len, args := #[x], argTypes := #[t] }, ty, p, af, g⟩ (.int .i64 n) :=
 fun _ w hf _ => by
  have r : (Builtin.len_ #[t] ty #[.slice q n k]).run c.P w = .ok (goInt n) w := by simp [Builtin.len_, run_underlying hT]
  simp [execOp, resolve, invoke, builtin, hf.ev e1, r, Oper.quietUpon, goInt]
theorem Qv {x y : Operand} {t e : TypeId} {b off n k sz : Nat} {ik : IntKind} {i : Int} (hT : c.P.underlying t = some (.slice e)) (hS : ∀ w, (sizeOf e).run c.P w = .ok sz w)
  (e1 : ev E x = some (.slice (some ⟨b, off, none⟩) n k)) (e2 : ev E y = some (.int ik i)) (h : 0 ≤ i ∧ i < n) :
  Yld c E R L ⟨d, .indexAddr t x y, ty, p, af, g⟩ (.pointer (some ⟨b, off + i.toNat * sz, none⟩)) :=
 fun _ w hf _ => by
  have r : (Instr.indexAt t (.slice (some ⟨b, off, none⟩) n k) (.int ik i)).run c.P w = .ok (.pointer (some ⟨b, off + i.toNat * sz, none⟩)) w := by
   simp [Instr.indexAt, asIntOf, run_underlying hT, h, hS, Yr]
  simp [execOp, hf.ev e1, hf.ev e2, r, Oper.quietUpon]
def Yy (a : Option Addr) (l m sz : Nat) : Option Addr := if m = l then a else a.map (·.add (l * sz))
theorem Zh {x : Operand} {lo hi : Option Operand} {t e : TypeId} {q : Option Addr} {n k sz l h : Nat} (hT : c.P.underlying t = some (.slice e)) (hS : ∀ w, (sizeOf e).run c.P w = .ok sz w)
  (e1 : ev E x = some (.slice q n k))
  (hl : match lo with | none => l = 0 | some o => ∃ ik, ev E o = some (.int ik (l : Int))) (hh : match hi with | none => h = n | some o => ∃ ik, ev E o = some (.int ik (h : Int))) (hb : l ≤ h ∧ h ≤ k) :
  Yld c E R L ⟨d, .slice t x lo hi none, ty, p, af, g⟩ (.slice (Yy q l k sz) (h - l) (k - l)) :=
 fun a w hf _ => by
  have r : (Instr.sliceBounds true n k (lo.map a.eval) (hi.map a.eval) none).run c.P w = .ok (l, h, k) w := by
   have bnd : ∀ (ik : IntKind) (m y : Nat) (code : BoundsCode), m ≤ y → (Instr.sliceBound (.int ik (m : Int)) y code).run c.P w = .ok m w := fun ik m y code hm => by
    have h1 : (0 : Int) ≤ m ∧ (m : Int) ≤ y := ⟨by omega, by omega⟩
    simp [Instr.sliceBound, asIntOf, hm]
   unfold Instr.sliceBounds
   cases lo with
   | none =>
    simp only at hl; subst hl
    cases hi with
    | none => simp only at hh; subst hh; simp
    | some o => obtain ⟨ik, hh⟩ := hh; simp [hf.ev hh, bnd _ _ _ _ hb.2]
   | some o =>
    obtain ⟨ik, hl⟩ := hl
    cases hi with
    | none => simp only at hh; subst hh; simp [hf.ev hl, bnd _ _ _ _ hb.1]
    | some o' => obtain ⟨ik', hh⟩ := hh; simp [hf.ev hl, hf.ev hh, bnd _ _ _ _ hb.1, bnd _ _ _ _ hb.2]
  have r2 : (Instr.sliceAt t (.slice q n k) (lo.map a.eval) (hi.map a.eval) none).run c.P w = .ok (.slice (Yy q l k sz) (h - l) (k - l)) w := by
   unfold Instr.sliceAt
   simp only [Sem.run_bind, run_underlying hT, Result.andThen_ok]
   unfold Instr.slice
   simp only [Sem.run_bind, run_underlying hT, Result.andThen_ok, r, hS, Sem.run_pure]
   rfl
  simp [execOp, hf.ev e1, r2, Oper.quietUpon]
theorem Yg {x : Operand} {t : TypeId} {b off n : Nat} {vs : List Value} (hT : qp c.P t n) (hn : vs.length = n) (e : ev E x = some (.pointer (some ⟨b, off, none⟩)))
  (h : ∀ j v, vs[j]? = some v → Hp.cell R ⟨b, off + j, none⟩ = some v) : Yld c E R L ⟨d, .load t x, ty, p, af, g⟩ (.agg ⟨vs⟩) :=
 js hT hn e fun _ hs j v hv => hs.ro_cell (h j v hv)
theorem QaU {x : Operand} {t et : TypeId} {b off n : Nat} {l vs : List Value} {M : List Asn} (hT : qp c.P t n) (e : ev E x = some (.pointer (some ⟨b, off, none⟩)))
  (f : Find (blk b l et) L M) (hv : (l.drop off).take n = vs) (hn : vs.length = n) : Yld c E R L ⟨d, .load t x, ty, p, af, g⟩ (.agg ⟨vs⟩) :=
 js hT hn e fun w hs j v hj => by
  rw [(hs.find f).blk_cell, Zw]
  subst hv
  rw [List.getElem?_take] at hj
  split at hj
  ·rwa [List.getElem?_drop] at hj
  ·cases hj
theorem QeN {x : Operand} {s t e : TypeId} {b off len cap : Nat} {bs : List UInt8} (hS : c.P.underlying s = some (.slice e)) (hE : c.P.underlying e = some (.int .u8)) (hT : c.P.underlying t = some .string)
  (e1 : ev E x = some (.slice (some ⟨b, off, none⟩) len cap)) (hl : bs.length = len) (hc : ∀ w, Sat c.σ R L w → ∀ (j : Nat) (u : UInt8), bs[j]? = some u → w.cell? ⟨b, off + j, none⟩ = some (.int .u8 (u.toNat : Int))) :
  Yld c E R L ⟨d, .convert s t x, ty, p, af, g⟩ (.string (str bs)) :=
 fun _ w hf hs => by
  have r2 : (convert s t (.slice (some ⟨b, off, none⟩) len cap)).run c.P w = .ok (.string (str bs)) w := by
   subst hl
   exact run_convert_bytes_back w s t e ⟨b, off, none⟩ cap bs hS hE hT fun j hj => by rw [Yr]; exact hc w hs j bs[j] (by simp [hj])
  simp [execOp, hf.ev e1, r2, Oper.quietUpon]
end
def yN (W : World) : Hp := fun b => W.heap[b]?
theorem Yd {R R' : Hp} (h : R.le R') {a : Addr} {v : Value} (e : Hp.cell R a = some v) : Hp.cell R' a = some v := by
 unfold Hp.cell at *
 cases hb : R a.block with
 | none => rw [hb] at e; cases e
 | some o => rw [hb] at e; rw [h _ _ hb]; exact e
theorem Qg7 (W : World) : Sat W (yN W) [] W := ⟨rfl, rfl, rfl, fun _ _ h => h, Hp.emp, fun _ _ h => (by cases h), fun _ => .inl rfl, trivial⟩
theorem Sat.below {W w' : World} {R : Hp} {L : List Asn} (s : Sat W R L w') (h : (yN W).le R) : Below W.heap.size W w' := by
 have hk : ∀ k, k < W.heap.size → w'.heap[k]? = W.heap[k]? := fun k hk => by
  have e : (yN W) k = some W.heap[k] := by simp [yN, hk]
  rw [s.ro _ _ (h _ _ e)]; simp [hk]
 refine ⟨s.os, s.tape, s.output, ?_, hk⟩
 rcases Nat.eq_zero_or_pos W.heap.size with h0 | h0
 ·omega
 ·have := hk (W.heap.size - 1) (by omega)
  have e : W.heap[W.heap.size - 1]? = some (W.heap[W.heap.size - 1]'(by omega)) := Array.getElem?_eq_getElem (by omega)
  rw [e] at this
  obtain ⟨hh, _⟩ := Array.getElem?_eq_some_iff.1 this
  omega
theorem QhC {P : Program} {f : FuncId} {args : List Value} {W : World} (h : Tri P f args (yN W) [] (fun v _ _ => v = .bool true)) :
  Calls P f ⟨args⟩ W fun e w' => e = .returned (.bool true) ∧ Below W.heap.size W w' :=
 (h W [] W (Qg7 W)).mono fun e w' ⟨R', L', hR, hs, hp⟩ => by
  cases e with
  | returned v => exact ⟨by rw [hp], hs.below hR⟩
  | panicked ch => exact hp.elim
  | outgrown => exact hp.elim

def Rdr (α : Type) := Hp → List Value → α → Prop
def QlP (k : IntKind) : Rdr Int := fun _ cs x => cs = [.int k x] ∧ k.min ≤ x ∧ x ≤ k.max
def Qca : Rdr Bool := fun _ cs x => cs = [.bool x]
def QdE : Rdr (List UInt8) := fun _ cs x => cs = [.string (str x)] ∧ x.length ≤ maxLen
def zj {α : Type} (n : Nat) (r : Rdr α) : Rdr (List α) := fun R cs xs => ∃ q cap, cs = [.slice q xs.length cap] ∧ xs.length ≤ cap ∧ cap ≤ maxLen ∧
 (xs = [] ∨ ∃ b off, q = some ⟨b, off, none⟩ ∧ ∀ (i : Nat) (h : i < xs.length), ∃ c : List Value, c.length = n ∧ (∀ j u, c[j]? = some u → Hp.cell R ⟨b, off + i * n + j, none⟩ = some u) ∧ r R c xs[i])
def Qce {H : Type} (enc : TypeId × Value → H) (P : Program) {α : Type} (t : TypeId) (r : Rdr α) : Prop :=
 ∀ (W : World) (fuel : Nat) (cs : List Value) (x : DataW H × List MemPlace), DataW.trod enc P W 0 (fun _ => true) true fuel t cs = some x → ∃ y, r (yN W) cs y
theorem Qfv {α : Type} {n : Nat} {P : Nat → α → Prop} (h : ∀ i, i < n → ∃ x, P i x) : ∃ xs : List α, xs.length = n ∧ ∀ (i : Nat) (hi : i < xs.length), P i xs[i] := by
 induction n with
 | zero => exact ⟨[], rfl, fun i hi => absurd hi (by simp)⟩
 | succ n ih =>
  obtain ⟨xs, hl, hx⟩ := ih fun i hi => h i (by omega)
  obtain ⟨x, hx'⟩ := h n (by omega)
  refine ⟨xs ++ [x], by simp [hl], fun i hi => ?_⟩
  rcases Nat.lt_or_ge i xs.length with k | k
  ·rw [List.getElem_append_left k]; exact hx i k
  ·have : i = xs.length := by simp at hi; omega
   subst this
   simpa [hl] using hx'
section
variable {H : Type} {enc : TypeId × Value → H} {P : Program}
theorem Qmd {k : IntKind} {n : Int} (h : (Lit.int k n).wf = true) : k.min ≤ n ∧ n ≤ k.max := by
 simpa [Lit.wf] using h
theorem Qhm {t : TypeId} {k : IntKind} (hT : P.underlying t = some (.int k)) : Qce enc P t (QlP k) := fun W fuel cs x h => by
 obtain ⟨n, e1, _, e3⟩ := DataW.trod_int hT h
 exact ⟨n, e1, Qmd e3⟩
theorem Qgm {t : TypeId} (hT : P.underlying t = some .bool) : Qce enc P t Qca := fun W fuel cs x h => by
 obtain ⟨n, e1, _⟩ := DataW.trod_bool hT h
 exact ⟨n, e1⟩
theorem Qhl {t : TypeId} (hT : P.underlying t = some .string) : Qce enc P t QdE := fun W fuel cs x h => by
 obtain ⟨s, e1, _, e3⟩ := DataW.trod_string hT h
 exact ⟨s.data.toList, by rw [e1, ← Qlm], by simpa using e3⟩
theorem QcT {α : Type} {t e : TypeId} {n : Nat} {r : Rdr α} (hT : P.underlying t = some (.slice e)) (hc : P.cellsOf e = n) (hn : 0 < n) (hr : Qce enc P e r) : Qce enc P t (zj n r) := fun W fuel cs x h => by
 rcases DataW.trod_slice hT h with ⟨rfl, _⟩ | ⟨a, len, cap, elems, rest, m, rfl, rfl, _, _, hlc, hcm, hel, hx, _⟩
 ·exact ⟨[], none, 0, rfl, by simp, by simp [maxLen], .inl rfl⟩
 ·rw [hc] at hx
  have key : ∀ i, i < len → ∃ y : α, ∃ c : List Value, c.length = n ∧ (∀ j u, c[j]? = some u → W.cell? ((a.add (i * n)).add j) = some u) ∧ r (yN W) c y := fun i hi => by
   have h1 := hx i hi
   obtain ⟨y, hy⟩ : ∃ y, elems[i]? = some y := ⟨elems[i], by simp [hel, hi]⟩
   rw [hy, Option.bind_eq_some_iff] at h1
   obtain ⟨c, hc1, hc2⟩ := h1
   obtain ⟨z, hz⟩ := hr W m c y hc2
   have hcs := World.cells?_some hc1
   exact ⟨z, c, hcs.2.1, fun j u hj => by
    have hjn : j < n := by rw [← hcs.2.1]; exact (List.getElem?_eq_some_iff.1 hj).1
    rw [hcs.2.2 j hjn]; exact hj, hz⟩
  obtain ⟨ys, hl, hy⟩ := Qfv key
  refine ⟨ys, some a, cap, by rw [hl], by omega, hcm, ?_⟩
  cases ys with
  | nil => exact .inl rfl
  | cons y0 ys =>
   refine .inr ?_
   obtain ⟨c, hc1, hc2, _⟩ := hy 0 (by simp)
   have hs : a.spot = none := by
    have h0 := hc2 0 (c[0]'(by omega)) (by simp)
    have e0 : (a.add (0 * n)).add 0 = a := by simp [Addr.add]
    rw [e0] at h0
    cases hsp : a.spot with
    | none => rfl
    | some q =>
     unfold World.cell? at h0
     split at h0
     ·rw [hsp] at h0; simp at h0
     ·cases h0
   obtain ⟨b, off, sp⟩ := a
   simp only at hs
   subst hs
   refine ⟨b, off, rfl, fun i hi => ?_⟩
   obtain ⟨c, h1, h2, h3⟩ := hy i hi
   exact ⟨c, h1, fun j u hj => by have := h2 j u hj; rw [Yr, Yr] at this; exact this, h3⟩
end
end V
end Go.Proofs.YtenfjpigffjgmaaGreat
namespace Go.Proofs.YtenfjpigffjgmaaGreat
theorem own : ownKnob Tryz.prog.godebug = none := by kernel_rfl
theorem Qcw : laidOutB Tryz.prog = true := by kernel_rfl
end Go.Proofs.YtenfjpigffjgmaaGreat
set_option linter.unusedSimpArgs false
set_option linter.unusedVariables false
namespace Go.Proofs.YtenfjpigffjgmaaGreat
open Go.RowKit
namespace V
def YR (ops : Array Oper) : Nat → Nat → Nat → Bool
 | 0, _, _ => false
 | k + 1, i, j => match ops[i]? with
  | none => false
  | some o => o.after.toList.any fun e => Region.binds .any e && (Nat.beq e.on j || YR ops k e.on j)
def XR (ops : Array Oper) (i : Nat) (j : Nat) : Bool :=
 match ops[i]?, ops[j]? with
 | some o, some u => match u.dst with
  | some d => (o.looksAt ops).contains d
  | none => false
 | _, _ => true
def Zb (ops : Array Oper) (i j : Nat) : Bool :=
 match ops[i]?, ops[j]? with
 | some o, some u => match u.dst with
  | some d => o.dst == some d
  | none => false
 | _, _ => true
def qz (ops : Array Oper) (i : Nat) : Bool :=
 match ops[i]? with
 | some o => match o.op with | .select _ _ => false | _ => true
 | none => false
def qC (ops : Array Oper) : List Nat → Bool
 | i :: j :: l => YR ops ops.size j i && qC ops (j :: l)
 | _ => true
def yV (ops : Array Oper) : List Nat → Bool
 | [] => true
 | i :: l => (l.all fun j => !XR ops i j && !Zb ops i j && !Zb ops j i && (YR ops ops.size j i || !XR ops j i)) && yV ops l
def Qbr (ops : Array Oper) : Bool := (List.range ops.size).all fun i => match ops[i]? with
 | none => false
 | some o => o.after.toList.all fun e => !Region.binds .any e || Nat.blt e.on i
def zB (ops : Array Oper) (Fs Cs Ts : List Nat) : Bool :=
 Qbr ops && ((List.range ops.size).all fun i => Fs.contains i || Cs.contains i || Ts.contains i) && Fs.Nodup && Cs.Nodup && Ts.Nodup &&
 (Fs.all fun i => !XR ops i i) && (Fs.all fun i => Nat.blt i ops.size && !Cs.contains i && !Ts.contains i) && (Cs.all fun i => Nat.blt i ops.size && !Ts.contains i) && (Ts.all fun i => Nat.blt i ops.size) &&
 yV ops Fs && qC ops Cs && (Fs.all fun i => qz ops i) && (Cs.all fun i => qz ops i) &&
 (Fs.all fun i => Cs.all fun k => !XR ops i k && !Zb ops i k && !Zb ops k i && (YR ops ops.size k i || !XR ops k i)) &&
 (Fs.all fun i => Ts.all fun k => YR ops ops.size k i) && (Cs.all fun i => Ts.all fun k => YR ops ops.size k i)

section
variable {c : Cx} {ops : Array Oper} {Q : Exit → Act → World → Prop} {R : Hp} {L : List Asn}
def Qdp (c : Cx) (ops : Array Oper) (R : Hp) (L : List Asn) (i : Nat) (E : Env) (v : Value) (E' : Env) : Prop :=
 ∃ o d, ops[i]? = some o ∧ o.dst = some d ∧ Nat.blt d c.n = true ∧ E' = (d, v) :: E ∧ ((Wn c ops E o true ∧ ∀ R', R.le R' → ∀ G, Yld c E R' (L ++ G) o v) ∨ (Wn c ops E o false ∧ v = undef))
def FJ (c : Cx) (ops : Array Oper) (R : Hp) (L : List Asn) (K : Env → Prop) : List Nat → Env → Prop
 | [], E => K E
 | i :: is, E => ∃ v E', Qdp c ops R L i E v E' ∧ FJ c ops R L K is E'
def XJ (c : Cx) (ops : Array Oper) (L : List Asn) (K : Env → Hp → List Asn → Prop) : List Nat → Env → Hp → List Asn → Prop
 | [], E, R, G => K E R G
 | i :: is, E, R, G => ∃ o, ops[i]? = some o ∧ ∀ a w, Fr c.n E a → Sat c.σ R (L ++ G) w →
   if Region.wanted o (yielded ops a.tmps) then o.wp c.P a w (fun a' w' => ∃ u E' R' G', R.le R' ∧ a' = a.put o.dst u ∧ Fr c.n E' a' ∧ Sat c.σ R' (L ++ G') w' ∧ XJ c ops L K is E' R' G') (fun _ _ _ => False)
   else ∃ E' R' G', R.le R' ∧ Fr c.n E' (a.put o.dst undef) ∧ Sat c.σ R' (L ++ G') w ∧ XJ c ops L K is E' R' G'

def Closed1 (ops : Array Oper) (listed : Array Bool) : Prop := ∀ i o, ops[i]? = some o → listed.getD i false = true → ∀ e ∈ o.after, Region.binds .any e = true → listed.getD e.on false = true
theorem zb {listed : Array Bool} (hc : Closed1 ops listed) : ∀ (k i j : Nat), YR ops k i j = true → (∀ o, ops[i]? = some o → ∀ e ∈ o.after, Region.binds .any e = true → listed.getD e.on false = true) → listed.getD j false = true := by
 intro k
 induction k with
 | zero => intro i j h; cases h
 | succ k ih =>
  intro i j h hi
  unfold YR at h
  cases ho : ops[i]? with
  | none => rw [ho] at h; cases h
  | some o =>
   rw [ho] at h
   simp only [List.any_eq_true, Bool.and_eq_true, Bool.or_eq_true] at h
   obtain ⟨e, he, hb, h⟩ := h
   have hl := hi o ho e (by simpa using he) hb
   rcases h with h | h
   ·rw [← Nat.eq_of_beq_eq_true h]; exact hl
   ·exact ih e.on j h fun o' ho' e' he' hb' => hc e.on o' ho' hl e' he' hb'
def XN (ops : Array Oper) (a : Act) : List (Nat × Value) → Act
 | [] => a
 | (i, v) :: l => (XN ops a l).put ((ops[i]?).bind (·.dst)) v
def XH (ops : Array Oper) (i : Nat) : Option Tmp := (ops[i]?).bind (·.dst)
def QK (c : Cx) (ops : Array Oper) (R : Hp) (L : List Asn) (x : Nat × Value) (a : Act) : Prop :=
 ∃ o, ops[x.1]? = some o ∧ (∀ cs b, o.op ≠ .select cs b) ∧ ∀ R', R.le R' → ∀ G w, Sat c.σ R' (L ++ G) w → (Region.wanted o (yielded ops a.tmps) = true ∧ o.quietAt c.P a (Sat c.σ R' (L ++ G)) w x.2) ∨ (Region.wanted o (yielded ops a.tmps) = false ∧ x.2 = undef)
theorem yI {i j : Nat} {o : Oper} (ho : ops[i]? = some o) (h : XR ops i j = false) : ∀ d, XH ops j = some d → d ∉ o.looksAt ops := by
 intro d hd hm
 unfold XH at hd
 unfold XR at h
 cases hj : ops[j]? with
 | none => rw [hj] at hd; cases hd
 | some u =>
  rw [hj] at hd
  simp only [Option.bind_some] at hd
  rw [ho, hj] at h
  simp only [hd] at h
  have : (o.looksAt ops).contains d = true := by simpa using hm
  rw [this] at h; cases h
theorem ZX {i j : Nat} (hi : i < ops.size) (h : Zb ops i j = false) : ∀ d, XH ops j = some d → XH ops i ≠ some d := by
 intro d hd hm
 unfold XH at hd hm
 unfold Zb at h
 cases hj : ops[j]? with
 | none => rw [hj] at hd; cases hd
 | some u =>
  cases hii : ops[i]? with
  | none => rw [hii] at hm; cases hm
  | some o =>
   rw [hj] at hd; rw [hii] at hm
   simp only [Option.bind_some] at hd hm
   rw [hii, hj] at h
   simp only [hd, hm] at h
   simp at h
theorem QK.put {x : Nat × Value} {a : Act} {j : Nat} {v : Value} (h : XR ops x.1 j = false) (q : QK c ops R L x a) : QK c ops R L x (a.put (XH ops j) v) := by
 obtain ⟨o, ho, hs, hq⟩ := q
 have hl := yI ho h
 refine ⟨o, ho, hs, fun R' hR G w hw => ?_⟩
 rw [wanted_put o a _ v hl]
 have := hq R' hR G w hw
 unfold Oper.quietAt at *
 rwa [execOp_put o hs a _ v hl]
theorem QK.unput {x : Nat × Value} {a : Act} {j : Nat} {v : Value} (h : XR ops x.1 j = false) (q : QK c ops R L x (a.put (XH ops j) v)) : QK c ops R L x a := by
 obtain ⟨o, ho, hs, hq⟩ := q
 have hl := yI ho h
 refine ⟨o, ho, hs, fun R' hR G w hw => ?_⟩
 have := hq R' hR G w hw
 rw [wanted_put o a _ v hl] at this
 unfold Oper.quietAt at *
 rwa [execOp_put o hs a _ v hl] at this
theorem QK.unvirt {x : Nat × Value} {a : Act} : ∀ {p : List (Nat × Value)}, (∀ y ∈ p, XR ops x.1 y.1 = false) → QK c ops R L x (XN ops a p) → QK c ops R L x a
 | [], _, q => q
 | y :: p, h, q => QK.unvirt (p := p) (fun z hz => h z (by simp [hz])) (QK.unput (h y (by simp)) q)
theorem zg {d : Option Tmp} {u : Value} : ∀ (p : List (Nat × Value)) (a : Act), (∀ y ∈ p, ∀ e, d = some e → XH ops y.1 ≠ some e) → XN ops (a.put d u) p = (XN ops a p).put d u
 | [], _, _ => rfl
 | (i, v) :: p, a, h => by
  simp only [XN]
  rw [zg p a (fun y hy => h y (by simp [hy]))]
  exact Act.put_comm _ u v (h (i, v) (by simp))
theorem qH {x : Nat × Value} : ∀ (p1 p2 : List (Nat × Value)) (a : Act), (∀ y ∈ p1 ++ p2, ∀ e, XH ops x.1 = some e → XH ops y.1 ≠ some e) → XN ops a (p1 ++ x :: p2) = XN ops (a.put (XH ops x.1) x.2) (p1 ++ p2)
 | [], p2, a, h => by
  obtain ⟨i, v⟩ := x
  simp only [List.nil_append, XN]
  rw [zg p2 a (fun y hy => h y (by simpa using hy))]
  rfl
 | (i, v) :: p1, p2, a, h => by
  simp only [List.cons_append, XN]
  rw [qH p1 p2 a (fun y hy => h y (by simp at hy ⊢; exact .inr hy))]
theorem QcI {o : Oper} {V a : Act} {K K' : Act → World → Prop} {r : Result Next} (h : o.upon c.P V K' (fun _ _ _ => False) r) (hk : ∀ u w', K' (V.put o.dst u) w' → K (a.put o.dst u) w')
  (hd : ∀ (q : Deferred) w', ¬ K' (({ V with defers := q :: V.defers } : Act).put o.dst undef) w') : o.upon c.P a K Q r := by
 cases r with
 | ok n w' =>
  cases n <;> simp only [Oper.upon] at h ⊢ <;> first | exact hk _ _ h | exact (hd _ _ h).elim | exact h.elim | skip
  case enter f args =>
   refine h.mono fun e w'' hp => ?_
   cases e with
   | returned v => exact hk _ _ hp
   | panicked ch => exact hp.elim
   | outgrown => exact absurd hp (by simp [LetsOut])
  case row row args => exact h.mono fun v w'' hp => hk _ _ hp
 | halt x w' => cases x <;> simp only [Oper.upon] at h
theorem qZ : ∀ {l : List Nat}, yV ops l = true → ∀ {i j : Nat}, i ∈ l → j ∈ l → i ≠ j → (XR ops i j = false ∨ YR ops ops.size i j = true) ∧ Zb ops i j = false
 | [], _, _, _, h, _, _ => by cases h
 | k :: l, h, i, j, hi, hj, hne => by
  simp only [yV, Bool.and_eq_true, List.all_eq_true, Bool.not_eq_true', Bool.or_eq_true] at h
  obtain ⟨h1, h2⟩ := h
  rcases List.mem_cons.1 hi with rfl | hi'
  ·rcases List.mem_cons.1 hj with rfl | hj'
   ·exact absurd rfl hne
   ·have := h1 j hj'
    exact ⟨.inl this.1.1.1, this.1.1.2⟩
  ·rcases List.mem_cons.1 hj with rfl | hj'
   ·have := h1 i hi'
    refine ⟨?_, this.1.2⟩
    rcases this.2 with h | h
    ·exact .inr h
    ·exact .inl h
   ·exact qZ h2 hi' hj' hne
theorem QcO {i : Nat} {l : List Nat} (h : qC ops (i :: l) = true) : qC ops l = true := by
 cases l with
 | nil => rfl
 | cons j l => simp only [qC, Bool.and_eq_true] at h; exact h.2
theorem QcP : ∀ {l : List Nat} {i : Nat} {k : Nat}, qC ops (k :: l) = true → i ∈ l → ∃ j, j ∈ k :: l ∧ YR ops ops.size i j = true
 | [], _, _, _, h => by cases h
 | j :: l, i, k, h, hi => by
  simp only [qC, Bool.and_eq_true] at h
  rcases List.mem_cons.1 hi with rfl | hi'
  ·exact ⟨k, by simp, h.1⟩
  ·obtain ⟨m, hm, ha⟩ := QcP (k := j) h.2 hi'
   exact ⟨m, by simp only [List.mem_cons] at hm ⊢; exact .inr hm, ha⟩
theorem QdP {l : List Nat} {i : Nat} {listed : Array Bool} (h : qC ops l = true) (hi : i ∈ l) (hu : ∀ j ∈ l, listed.getD j false = false)
  (ha : ∀ j, YR ops ops.size i j = true → listed.getD j false = true) : ∃ l', l = i :: l' := by
 cases l with
 | nil => cases hi
 | cons k l =>
  rcases List.mem_cons.1 hi with rfl | hi'
  ·exact ⟨l, rfl⟩
  ·obtain ⟨j, hj, haj⟩ := QcP h hi'
   have := ha j haj
   rw [hu j hj] at this; cases this
theorem ye {listed : Array Bool} (hl : Qbr ops = true) (hs : listed.size = ops.size) : ∀ i, i < ops.size → listed.getD i false = false → ∃ j, j ∈ Region.ready .any ops listed := by
 intro i
 induction i using Nat.strongRecOn with
 | _ i ih =>
  intro hi hu
  unfold Qbr at hl
  rw [List.all_eq_true] at hl
  have h0 := hl i (by simpa using hi)
  have ho : ops[i]? = some ops[i] := by simp [hi]
  rw [ho] at h0
  simp only [List.all_eq_true, Bool.or_eq_true, Bool.not_eq_true'] at h0
  by_cases hall : ∀ e ∈ ops[i].after, Region.binds .any e = true → listed.getD e.on false = true
  ·refine ⟨i, mem_ready.2 ⟨?_, _, ho, hall⟩⟩
   rw [Array.getD_eq_getD_getElem?] at hu ⊢
   rw [Array.getElem?_eq_getElem (by omega)] at hu ⊢
   simpa using hu
  ·have ⟨e, h1⟩ := Classical.not_forall.1 hall
   have ⟨he, h2⟩ := Classical.not_forall.1 h1
   have ⟨hb, h3⟩ := Classical.not_forall.1 h2
   rcases h0 e (by simpa using he) with h | h
   ·rw [hb] at h; cases h
   ·have hlt : e.on < i := Nat.lt_of_lt_of_le (Nat.lt_succ_self _) (Nat.le_of_ble_eq_true h)
    exact ih e.on hlt (by omega) (by simpa using h3)
theorem zk {listed : Array Bool} {i j : Nat} (hi : i < listed.size) : (listed.setIfInBounds i true).getD j false = if j = i then true else listed.getD j false := by
 by_cases h : j = i
 ·subst h
  rw [if_pos rfl, Array.getD_eq_getD_getElem?, Array.getElem?_setIfInBounds]
  simp [hi]
 ·rw [if_neg h, Array.getD_eq_getD_getElem?, Array.getElem?_setIfInBounds_ne (Ne.symm h), ← Array.getD_eq_getD_getElem?]
theorem Closed1.set {listed : Array Bool} {i : Nat} (hc : Closed1 ops listed) (hs : listed.size = ops.size) (hr : i ∈ Region.ready .any ops listed) : Closed1 ops (listed.setIfInBounds i true) := by
 obtain ⟨h0, o, ho, hall⟩ := mem_ready.1 hr
 have hi : i < listed.size := by rw [hs]; exact (Array.getElem?_eq_some_iff.1 ho).1
 intro j u hj hl e he hb
 rw [zk hi] at hl ⊢
 split
 ·rfl
 ·by_cases hji : j = i
  ·subst hji
   rw [ho] at hj; cases hj
   exact hall e he hb
  ·rw [if_neg hji] at hl
   exact hc j u hj hl e he hb
theorem yu {o : Oper} {a : Act} : ∀ {p : List (Nat × Value)}, (∀ y ∈ p, ∀ d, XH ops y.1 = some d → d ∉ o.looksAt ops) → Region.wanted o (yielded ops (XN ops a p).tmps) = Region.wanted o (yielded ops a.tmps)
 | [], _ => rfl
 | (i, v) :: p, h => by
  simp only [XN]
  rw [show ((ops[i]?).bind (·.dst)) = XH ops i from rfl, wanted_put o _ _ v (h (i, v) (by simp))]
  exact yu (p := p) fun y hy => h y (by simp [hy])
theorem yB {o : Oper} (hs : ∀ cs b, o.op ≠ .select cs b) {a : Act} : ∀ {p : List (Nat × Value)}, (∀ y ∈ p, ∀ d, XH ops y.1 = some d → d ∉ o.looksAt ops) → execOp (XN ops a p).eval o = execOp a.eval o
 | [], _ => rfl
 | (i, v) :: p, h => by
  simp only [XN]
  rw [show ((ops[i]?).bind (·.dst)) = XH ops i from rfl, execOp_put o hs _ _ v (h (i, v) (by simp))]
  exact yB hs (p := p) fun y hy => h y (by simp [hy])
theorem qh {i : Nat} {o : Oper} (ho : ops[i]? = some o) (h : qz ops i = true) : ∀ cs b, o.op ≠ .select cs b := by
 intro cs b he
 unfold qz at h
 rw [ho] at h
 simp only [he] at h
 cases h
theorem QdQ : ∀ {pre l : List Nat}, qC ops (pre ++ l) = true → qC ops l = true
 | [], _, h => h
 | i :: pre, l, h => QdQ (pre := pre) (QcO h)
def TK (c : Cx) (ops : Array Oper) (Q : Exit → Act → World → Prop) (R : Hp) (Ts : List Nat) (L : List Asn) (E : Env) : Prop :=
 ∀ fuel listed a w, listed.size = ops.size → Closed1 ops listed → (∀ j, j < ops.size → (listed.getD j false = false ↔ j ∈ Ts)) → Ts.length ≤ fuel → Fr c.n E a → Sat c.σ R L w → wpAny c.P .any ops Q fuel listed a w
def QmT (c : Cx) (ops : Array Oper) (Q : Exit → Act → World → Prop) (R : Hp) (L : List Asn) (Fs Cs Ts : List Nat) (fuel : Nat) (listed : Array Bool) (a : Act) (w : World) : Prop :=
 listed.size = ops.size ∧ Closed1 ops listed ∧
 ∃ (pend : List (Nat × Value)) (cs : List Nat) (E : Env) (R1 : Hp) (G : List Asn), R.le R1 ∧ (∀ x ∈ pend, x.1 ∈ Fs) ∧ (pend.map (·.1)).Nodup ∧ (∃ pre, Cs = pre ++ cs) ∧
   XJ c ops L (fun E R G => TK c ops Q R Ts (L ++ G) E) cs E R1 G ∧ Fr c.n E (XN ops a pend) ∧ Sat c.σ R1 (L ++ G) w ∧ (∀ x ∈ pend, QK c ops R L x (XN ops a pend)) ∧
   (∀ j, j < ops.size → (listed.getD j false = false ↔ j ∈ pend.map (·.1) ∨ j ∈ cs ∨ j ∈ Ts)) ∧ pend.length + cs.length + Ts.length ≤ fuel
theorem QiL {Fs Cs Ts : List Nat} (hB : zB ops Fs Cs Ts = true) : ∀ (fuel : Nat) (listed : Array Bool) (a : Act) (w : World), QmT c ops Q R L Fs Cs Ts fuel listed a w → wpAny c.P .any ops Q fuel listed a w := by
 simp only [zB, Bool.and_eq_true, List.all_eq_true, Bool.not_eq_true', Bool.or_eq_true, decide_eq_true_eq] at hB
 obtain ⟨⟨⟨⟨⟨⟨⟨⟨⟨⟨⟨⟨⟨⟨⟨hlow, hcover⟩, hFn⟩, hCn⟩, hTn⟩, hself⟩, hF⟩, hC⟩, hT⟩, hpair⟩, hrow⟩, hFs⟩, hCs⟩, hFC⟩, hFT⟩, hCT⟩ := hB
 have hFlt : ∀ i ∈ Fs, i < ops.size := fun i hi => Nat.lt_of_lt_of_le (Nat.lt_succ_self _) (Nat.le_of_ble_eq_true (hF i hi).1.1)
 have hClt : ∀ i ∈ Cs, i < ops.size := fun i hi => Nat.lt_of_lt_of_le (Nat.lt_succ_self _) (Nat.le_of_ble_eq_true (hC i hi).1)
 have hTlt : ∀ i ∈ Ts, i < ops.size := fun i hi => Nat.lt_of_lt_of_le (Nat.lt_succ_self _) (Nat.le_of_ble_eq_true (hT i hi))
 intro fuel
 induction fuel with
 | zero =>
  rintro listed a w ⟨hs, hc, pend, cs, E, R1, G, hR1, hp, hpn, _, hX, hE, hw, hq, hl, hf⟩
  have e1 := List.eq_nil_of_length_eq_zero (l := pend) (by omega)
  have e2 := List.eq_nil_of_length_eq_zero (l := cs) (by omega)
  subst e1 e2
  exact hX 0 listed a w hs hc (fun j hj => (hl j hj).trans (by simp)) (by simpa using hf) hE hw
 | succ fuel ih =>
  rintro listed a w ⟨hs, hc, pend, cs, E, R1, G, hR1, hp, hpn, ⟨pre, hpre⟩, hX, hE, hw, hq, hl, hf⟩
  by_cases hall : pend = [] ∧ cs = []
  ·obtain ⟨rfl, rfl⟩ := hall
   exact hX (fuel + 1) listed a w hs hc (fun j hj => (hl j hj).trans (by simp)) (by simpa using hf) hE hw
  have hpu : ∀ y ∈ pend, listed.getD y.1 false = false := fun y hy => (hl _ (hFlt _ (hp y hy))).2 (.inl (List.mem_map.2 ⟨y, hy, rfl⟩))
  have hcsu : ∀ j ∈ cs, listed.getD j false = false := fun j h => (hl _ (hClt _ (by rw [hpre]; simp [h]))).2 (.inr (.inl h))
  refine ⟨fun hr => ?_, fun i hi => ?_⟩
  ·exfalso
   have : ∃ j, j < ops.size ∧ listed.getD j false = false := by
    cases hpe : pend with
    | cons y p => exact ⟨y.1, hFlt _ (hp y (by rw [hpe]; simp)), hpu y (by rw [hpe]; simp)⟩
    | nil => cases hce : cs with
     | cons k p => exact ⟨k, hClt _ (by rw [hpre, hce]; simp), hcsu k (by rw [hce]; simp)⟩
     | nil => exact absurd ⟨hpe, hce⟩ hall
   obtain ⟨j, hj, hu⟩ := this
   obtain ⟨k, hk⟩ := ye hlow hs j hj hu
   rw [hr] at hk; cases hk
  ·obtain ⟨h0, o, ho, hdeps⟩ := mem_ready.1 hi
   have hilt : i < ops.size := (Array.getElem?_eq_some_iff.1 ho).1
   have hu : listed.getD i false = false := by
    rw [Array.getD_eq_getD_getElem?] at h0 ⊢
    rw [Array.getElem?_eq_getElem (by omega)] at h0 ⊢
    simpa using h0
   have hanc : ∀ j, YR ops ops.size i j = true → listed.getD j false = true := fun j hj => zb hc _ i j hj fun o' ho' => by rw [ho] at ho'; cases ho'; exact hdeps
   have hs' : (listed.setIfInBounds i true).size = ops.size := by simpa using hs
   have hc' : Closed1 ops (listed.setIfInBounds i true) := hc.set hs hi
   have hgd : ∀ j, (listed.setIfInBounds i true).getD j false = if j = i then true else listed.getD j false := fun j => zk (by omega)
   have hrow' : qC ops cs = true := by rw [hpre] at hrow; exact QdQ hrow
   ·skip
    by_cases hip : i ∈ pend.map (·.1)
    · -- one that only looks
     obtain ⟨x, hx, rfl⟩ := List.mem_map.1 hip
     obtain ⟨p1, p2, rfl⟩ := List.append_of_mem hx
     have hxF := hp x hx
     have hnot : ∀ y ∈ p1 ++ p2, y.1 ≠ x.1 := by
      intro y hy he
      simp only [List.map_append, List.map_cons] at hpn
      have hn := List.nodup_append.1 hpn
      rcases List.mem_append.1 hy with h | h
      ·exact hn.2.2 y.1 (List.mem_map.2 ⟨y, h, rfl⟩) x.1 (by simp) he
      ·have := (List.nodup_cons.1 hn.2.1).1
       exact this (List.mem_map.2 ⟨y, h, he⟩)
     have hsub : ∀ y ∈ p1 ++ p2, y ∈ p1 ++ x :: p2 := fun y hy => by simp at hy ⊢; rcases hy with h | h <;> simp [h]
     have hlook : ∀ y ∈ p1 ++ x :: p2, XR ops x.1 y.1 = false := by
      intro y hy
      by_cases he : y.1 = x.1
      ·rw [he]; exact hself _ hxF
      ·rcases (qZ hpair hxF (hp y hy) (Ne.symm he)).1 with h | h
       ·exact h
       ·have := hanc _ h; rw [hpu y hy] at this; cases this
     have hqa : QK c ops R L x a := QK.unvirt hlook (hq x hx)
     obtain ⟨o', ho', hsel, hqq⟩ := hqa
     rw [ho] at ho'; cases ho'
     have hvt := qH (ops := ops) (x := x) p1 p2 a fun y hy e he => ZX (hFlt _ (hp y (hsub y hy))) (qZ hpair (hp y (hsub y hy)) hxF (hnot y hy)).2 e he
     have next : ∀ w', Sat c.σ R1 (L ++ G) w' → wpAny c.P .any ops Q fuel (listed.setIfInBounds x.1 true) (a.put o.dst x.2) w' := by
      intro w' hw'
      have hod : o.dst = XH ops x.1 := by simp [XH, ho]
      rw [hod]
      refine ih _ _ _ ⟨hs', hc', p1 ++ p2, cs, E, R1, G, hR1, fun y hy => hp y (hsub y hy), ?_, ⟨pre, hpre⟩, hX, by rw [← hvt]; exact hE, hw', fun y hy => by rw [← hvt]; exact hq y (hsub y hy), fun j hj => ?_, ?_⟩
      ·simp only [List.map_append, List.map_cons] at hpn ⊢
       have hn := List.nodup_append.1 hpn
       exact List.nodup_append.2 ⟨hn.1, (List.nodup_cons.1 hn.2.1).2, fun u hu v hv => hn.2.2 u hu v (by simp [hv])⟩
      ·rw [hgd]
       by_cases hji : j = x.1
       ·rw [if_pos hji]
        simp only [Bool.true_eq_false, false_iff, not_or]
        subst hji
        refine ⟨fun h => ?_, fun h => ?_, fun h => ?_⟩
        ·obtain ⟨y, hy, he⟩ := List.mem_map.1 h; exact hnot y hy he
        ·have := (hF _ hxF).1.2; rw [hpre] at this; simp [h] at this
        ·have := (hF _ hxF).2; simp [h] at this
       ·rw [if_neg hji, hl j hj]
        simp only [List.map_append, List.map_cons, List.mem_append, List.mem_cons]
        constructor
        ·rintro ((h | h | h) | h) <;> first | exact absurd h hji | simp [h]
        ·rintro ((h | h) | h) <;> simp [h]
      ·simp at hf ⊢; omega
     unfold wpOp
     rw [ho]
     simp only
     cases hwt : Region.wanted o (yielded ops a.tmps) with
     | true =>
      rw [if_pos rfl]
      refine .inl (Oper.wp_of_quiet (C := Sat c.σ R1 (L ++ G)) (K := fun a' => a' = a.put o.dst x.2) hw (fun a' w' hw' ha' => by subst ha'; exact next w' hw') ⟨x.2, fun w' hw' => ?_, rfl⟩)
      rcases hqq R1 hR1 G w' hw' with h | h
      ·exact h.2
      ·rw [hwt] at h; cases h.1
     | false =>
      rw [if_neg (by decide)]
      rcases hqq R1 hR1 G w hw with h | h
      ·rw [hwt] at h; cases h.1
      ·have := next w hw; rw [h.2] at this; exact this
    ·have hmem : i ∈ cs := by
      rcases (hl i hilt).1 hu with h | h | h
      ·exact absurd h hip
      ·exact h
      ·exfalso
       cases hpe : pend with
       | cons y p => have := hanc _ (hFT _ (hp y (by rw [hpe]; simp)) i h); rw [hpu y (by rw [hpe]; simp)] at this; cases this
       | nil => cases hce : cs with
        | cons k p => have := hanc _ (hCT k (by rw [hpre, hce]; simp) i h); rw [hcsu k (by rw [hce]; simp)] at this; cases this
        | nil => exact absurd ⟨hpe, hce⟩ hall
     obtain ⟨l', hl'⟩ := QdP hrow' hmem hcsu hanc
     cases cs with
     | nil => cases hmem
     | cons k cs' =>
      simp only [List.cons.injEq] at hl'
      obtain ⟨rfl, _⟩ := hl'
      have hkC : k ∈ Cs := by rw [hpre]; simp
      have hlk : ∀ y ∈ pend, ∀ d, XH ops y.1 = some d → d ∉ o.looksAt ops := by
       intro y hy
       refine yI ho ?_
       rcases (hFC _ (hp y hy) k hkC).2 with h | h
       ·have := hanc _ h; rw [hpu y hy] at this; cases this
       ·exact h
      have hsel := qh ho (hCs k hkC)
      simp only [XJ] at hX
      obtain ⟨o', ho', hstep⟩ := hX
      rw [ho] at ho'; cases ho'
      have hst := hstep _ w hE hw
      rw [yu hlk] at hst
      have hod : o.dst = XH ops k := by simp [XH, ho]
      have hvp : ∀ u, XN ops (a.put o.dst u) pend = (XN ops a pend).put o.dst u := fun u => zg pend a fun y hy e he => by
       rw [hod] at he
       exact ZX (hFlt _ (hp y hy)) ((hFC _ (hp y hy) k hkC).1.1.2) e he
      have next : ∀ u w' E' R2 G', R1.le R2 → Fr c.n E' ((XN ops a pend).put o.dst u) → Sat c.σ R2 (L ++ G') w' → XJ c ops L (fun E R G => TK c ops Q R Ts (L ++ G) E) cs' E' R2 G' →
        wpAny c.P .any ops Q fuel (listed.setIfInBounds k true) (a.put o.dst u) w' := by
       intro u w' E' R2 G' hle hE' hw' hX'
       refine ih _ _ _ ⟨hs', hc', pend, cs', E', R2, G', Hp.le_trans hR1 hle, hp, hpn, ⟨pre ++ [k], by rw [hpre]; simp⟩, hX', by rw [hvp]; exact hE', hw', fun y hy => ?_, fun j hj => ?_, ?_⟩
       ·rw [hvp, hod]
        exact QK.put ((hFC _ (hp y hy) k hkC).1.1.1) (hq y hy)
       ·rw [hgd]
        by_cases hji : j = k
        ·rw [if_pos hji]
         simp only [Bool.true_eq_false, false_iff, not_or]
         subst hji
         refine ⟨hip, fun h => ?_, fun h => ?_⟩
         ·rw [hpre] at hCn
          have hn := (List.nodup_append.1 hCn).2.1
          exact (List.nodup_cons.1 hn).1 h
         ·have := (hC _ hkC).2; simp [h] at this
        ·rw [if_neg hji, hl j hj]
         simp only [List.mem_cons]
         constructor
         ·rintro (h | (h | h) | h) <;> first | exact absurd h hji | simp [h]
         ·rintro (h | h | h) <;> simp [h]
       ·simp at hf ⊢; omega
      unfold wpOp
      rw [ho]
      simp only
      cases hwt : Region.wanted o (yielded ops a.tmps) with
      | true =>
       rw [hwt, if_pos rfl] at hst
       rw [if_pos rfl]
       refine .inl ?_
       unfold Oper.wp at hst ⊢
       rw [yB hsel hlk] at hst
       refine QcI hst ?_ ?_
       ·rintro u w' ⟨u', E', R2, G', hle, he, h1, h2, h3⟩
        exact next u w' E' R2 G' hle h1 h2 h3
       ·rintro q w' ⟨u', E', R2, G', hle, he, h1, h2, h3⟩
        have := h1.dfs
        cases hd2 : o.dst <;> simp [Act.put, hd2] at this
      | false =>
       rw [hwt, if_neg (by decide)] at hst
       rw [if_neg (by decide)]
       obtain ⟨E', R2, G', hle, h1, h2, h3⟩ := hst
       exact next undef w E' R2 G' hle h1 h2 h3
theorem Qcp (hlow : Qbr ops = true) : ∀ (ts : List Nat) (fuel : Nat) (listed : Array Bool) (a : Act) (w : World), qC ops ts = true → ts.Nodup → (∀ j ∈ ts, j < ops.size) → listed.size = ops.size → Closed1 ops listed →
  (∀ j, j < ops.size → (listed.getD j false = false ↔ j ∈ ts)) → ts.length ≤ fuel → wpOps c.P ops Q ts a w → wpAny c.P .any ops Q fuel listed a w
 | [], fuel, listed, a, w, _, _, _, hs, _, hl, _, hW => by
  refine wpAny_done ?_ hW fuel
  cases hr : Region.ready .any ops listed with
  | nil => rfl
  | cons j l =>
   have hj : j ∈ Region.ready .any ops listed := by rw [hr]; simp
   obtain ⟨h0, o, ho, _⟩ := mem_ready.1 hj
   have hlt := (Array.getElem?_eq_some_iff.1 ho).1
   have hu : listed.getD j false = false := by
    rw [Array.getD_eq_getD_getElem?] at h0 ⊢
    rw [Array.getElem?_eq_getElem (by omega)] at h0 ⊢
    simpa using h0
   have := (hl j hlt).1 hu
   cases this
 | k :: ts, fuel, listed, a, w, hrow, hnd, hlt, hs, hc, hl, hf, hW => by
  obtain ⟨fuel, rfl⟩ : ∃ q, fuel = q + 1 := ⟨fuel - 1, by simp at hf; omega⟩
  refine ⟨fun hr => ?_, fun i hi => ?_⟩
  ·obtain ⟨q, hq⟩ := ye hlow hs k (hlt k (by simp)) ((hl k (hlt k (by simp))).2 (by simp))
   rw [hr] at hq; cases hq
  ·obtain ⟨h0, o, ho, hdeps⟩ := mem_ready.1 hi
   have hilt : i < ops.size := (Array.getElem?_eq_some_iff.1 ho).1
   have hu : listed.getD i false = false := by
    rw [Array.getD_eq_getD_getElem?] at h0 ⊢
    rw [Array.getElem?_eq_getElem (by omega)] at h0 ⊢
    simpa using h0
   have hanc : ∀ j, YR ops ops.size i j = true → listed.getD j false = true := fun j hj => zb hc _ i j hj fun o' ho' => by rw [ho] at ho'; cases ho'; exact hdeps
   obtain ⟨l', hl'⟩ := QdP hrow ((hl i hilt).1 hu) (fun j hj => (hl j (hlt j hj)).2 hj) hanc
   simp only [List.cons.injEq] at hl'
   obtain ⟨rfl, rfl⟩ := hl'
   rw [wpOps_cons] at hW
   refine wpOp_mono (fun a' w' h => Qcp hlow ts fuel _ a' w' (QcO hrow) (List.nodup_cons.1 hnd).2 (fun j hj => hlt j (by simp [hj])) (by simpa using hs) (hc.set hs hi) (fun j hj => ?_) (by simpa using hf) h) hW
   rw [zk (by omega)]
   by_cases hji : j = k
   ·rw [if_pos hji]
    subst hji
    simp [(List.nodup_cons.1 hnd).1]
   ·rw [if_neg hji, hl j hj]
    simp [hji]
end
section
variable {c : Cx} {l : List Oper} {Q : Exit → Act → World → Prop} {R : Hp} {L : List Asn} {E : Env}
def yl : List Oper → Nat → Option Oper
 | [], _ => none
 | o :: _, 0 => some o
 | _ :: l, n + 1 => yl l n
theorem yk (l : List Oper) : ∀ n, yl l n = l[n]? := by
 induction l with
 | nil => intro n; simp [yl]
 | cons x l ih => intro n; cases n with | zero => simp [yl] | succ n => simp [yl, ih]
def jA (l : List Oper) : List Nat → Option (List Oper)
 | [] => some []
 | i :: is => match yl l i, jA l is with
  | some o, some os => some (o :: os)
  | _, _ => none
theorem zE {P : Program} : ∀ {is : List Nat} {os : List Oper}, jA l is = some os → ∀ {a : Act} {w : World}, wpList P l.toArray Q os a w → wpOps P l.toArray Q is a w
 | [], os, h, a, w, hw => by simp only [jA, Option.some.injEq] at h; subst h; exact hw
 | i :: is, os, h, a, w, hw => by
  simp only [jA] at h
  split at h
  ·rename_i o os' h1 h2
   simp only [Option.some.injEq] at h; subst h
   rw [yk] at h1
   have ho : l.toArray[i]? = some o := by simpa using h1
   simp only [wpOps, ho]
   have ih : ∀ a w, wpList P l.toArray Q os' a w → wpOps P l.toArray Q is a w := fun a w => zE h2
   simp only [wpList] at hw
   split
   ·rename_i hwt
    rw [if_pos hwt] at hw
    exact hw.imp (Oper.wp_mono ih) id
   ·rename_i hwt
    rw [if_neg hwt] at hw
    exact ih _ _ hw
  ·cases h
theorem yJ : ∀ (n : Nat) (l : List Nat), l.Nodup → (∀ x ∈ l, x < n) → l.length ≤ n
 | 0, l, _, h => by
  cases l with
  | nil => simp
  | cons x l => exact absurd (h x (by simp)) (by omega)
 | n + 1, l, hn, h => by
  by_cases hm : n ∈ l
  ·have := yJ n (l.erase n) (hn.erase n) fun x hx => by
    have h1 := h x (List.mem_of_mem_erase hx)
    have h2 : x ≠ n := fun e => by subst e; exact (List.Nodup.not_mem_erase hn) hx
    omega
   rw [List.length_erase_of_mem hm] at this
   omega
  ·have := yJ n l hn fun x hx => by
    have h1 := h x hx
    have h2 : x ≠ n := fun e => by subst e; exact hm hx
    omega
   omega
theorem QfQ {id : Nat} (Fs Cs Ts : List Nat) (G0 : List Asn) {L0 : List Asn} {KK : Env → Hp → List Asn → Prop} (hL : Sub L0 (L ++ G0)) (hm : c.P.follows .mixedOrders = true) (hB : zB l.toArray Fs Cs Ts = true)
  (hK : ∀ E R G, KK E R G → TK c l.toArray Q R Ts (L ++ G) E)
  (h : FJ c l.toArray R L (fun E' => XJ c l.toArray L KK Cs E' R G0) Fs E) : CJ c (.region id l.toArray true) Q E R L0 := by
 intro a w hf hs0
 have hs := hs0.sub hL
 refine wp_region_any hm (QiL (Q := Q) (R := R) (L := L) hB _ _ _ _ ?_)
 have hB' := hB
 simp only [zB, Bool.and_eq_true, List.all_eq_true, Bool.not_eq_true', Bool.or_eq_true, decide_eq_true_eq] at hB'
 obtain ⟨⟨⟨⟨⟨⟨⟨⟨⟨⟨⟨⟨⟨⟨⟨hlow, hcover⟩, hFn⟩, hCn⟩, hTn⟩, hself⟩, hF⟩, hC⟩, hT⟩, hpair⟩, hrow⟩, hFs⟩, hCs⟩, hFC⟩, hFT⟩, hCT⟩ := hB'
 -- the values of those that only look
 have key : ∀ (Fs : List Nat) (a : Act) (E : Env), (∀ i ∈ Fs, XR l.toArray i i = false) → (∀ i ∈ Fs, qz l.toArray i = true) → yV l.toArray Fs = true → Fr c.n E a →
   FJ c l.toArray R L (fun E' => XJ c l.toArray L KK Cs E' R G0) Fs E →
   ∃ (pend : List (Nat × Value)) (E' : Env), pend.map (·.1) = Fs ∧ Fr c.n E' (XN l.toArray a pend) ∧ (∀ x ∈ pend, QK c l.toArray R L x (XN l.toArray a pend)) ∧ XJ c l.toArray L KK Cs E' R G0 := by
  intro Fs
  induction Fs with
  | nil => intro a E _ _ _ hf h; exact ⟨[], E, rfl, hf, fun x hx => (by cases hx), h⟩
  | cons i is ih =>
   intro a E hself hsel hpair hf h
   obtain ⟨v, E1, ⟨o, d, ho, hd, hn, rfl, hspec⟩, hrest⟩ := h
   have hpair' := hpair
   simp only [yV, Bool.and_eq_true, List.all_eq_true, Bool.not_eq_true', Bool.or_eq_true] at hpair'
   have hda : XH l.toArray i = some d := by unfold XH; rw [ho]; exact hd
   have hilt : i < l.toArray.size := (Array.getElem?_eq_some_iff.1 ho).1
   obtain ⟨pend, E', e1, e2, e3, e4⟩ := ih (a.put (some d) v) _ (fun j hj => hself j (by simp [hj])) (fun j hj => hsel j (by simp [hj])) hpair'.2 (hf.put hn v) hrest
   have hmem : ∀ y ∈ pend, y.1 ∈ is := fun y hy => by rw [← e1]; exact List.mem_map.2 ⟨y, hy, rfl⟩
   have hvt : XN l.toArray a ((i, v) :: pend) = XN l.toArray (a.put (some d) v) pend := by
    have := qH (ops := l.toArray) (x := (i, v)) [] pend a fun y hy e he => by
     simp only [List.nil_append] at hy
     exact ZX (by
      have := hmem y hy
      rw [← e1] at this
      obtain ⟨z, hz, hze⟩ := List.mem_map.1 this
      obtain ⟨o', ho', _⟩ := e3 z hz
      rw [← hze]
      exact (Array.getElem?_eq_some_iff.1 ho').1) (hpair'.1 y.1 (hmem y hy)).1.2 e he
    simpa [hda] using this
   refine ⟨(i, v) :: pend, E', by simp [e1], by rw [hvt]; exact e2, fun x hx => ?_, e4⟩
   rw [hvt]
   rcases List.mem_cons.1 hx with rfl | hx
   ·have q0 : QK c l.toArray R L (i, v) a := ⟨o, ho, qh ho (hsel i (by simp)), fun R' hR G w hw => by
     rcases hspec with ⟨hw1, hy⟩ | ⟨hw1, hy⟩
     ·exact .inl ⟨hw1 a hf, hy R' hR G a w hf hw⟩
     ·exact .inr ⟨hw1 a hf, hy⟩⟩
    have q1 : QK c l.toArray R L (i, v) (a.put (XH l.toArray i) v) := QK.put (hself i (by simp)) q0
    rw [hda] at q1
    have : ∀ (p : List (Nat × Value)) (a : Act), (∀ y ∈ p, XR l.toArray i y.1 = false) → QK c l.toArray R L (i, v) a → QK c l.toArray R L (i, v) (XN l.toArray a p) := by
     intro p
     induction p with
     | nil => intro a _ q; exact q
     | cons y p ihp => intro a hp q; exact QK.put (hp y (by simp)) (ihp a (fun z hz => hp z (by simp [hz])) q)
    exact this pend _ (fun y hy => (hpair'.1 y.1 (hmem y hy)).1.1.1) q1
   ·exact e3 x hx
 obtain ⟨pend, E', e1, e2, e3, e4⟩ := key Fs a E hself hFs hpair hf h
 have hmono : ∀ (cs : List Nat) (E : Env) (R : Hp) (G : List Asn), XJ c l.toArray L KK cs E R G → XJ c l.toArray L (fun E R G => TK c l.toArray Q R Ts (L ++ G) E) cs E R G := by
  intro cs
  induction cs with
  | nil => intro E R G h; exact hK E R G h
  | cons i is ih =>
   intro E R G h
   obtain ⟨o, ho, hst⟩ := h
   refine ⟨o, ho, fun a w ha hw => ?_⟩
   have := hst a w ha hw
   split
   ·rename_i hwt
    rw [if_pos hwt] at this
    exact Oper.wp_mono (fun a' w' ⟨u, E', R', G', hle, h1, h2, h3, h4⟩ => ⟨u, E', R', G', hle, h1, h2, h3, ih _ _ _ h4⟩) this
   ·rename_i hwt
    rw [if_neg hwt] at this
    obtain ⟨E', R', G', hle, h1, h2, h3⟩ := this
    exact ⟨E', R', G', hle, h1, h2, ih _ _ _ h3⟩
 have hrep : ∀ j, (Array.replicate l.toArray.size false).getD j false = false := fun j => by
  rw [Array.getD_eq_getD_getElem?, Array.getElem?_replicate]; split <;> rfl
 refine ⟨by simp, fun i o _ hl => (by rw [hrep] at hl; cases hl), pend, Cs, E', R, G0, Hp.le_refl R, fun x hx => by rw [← e1]; exact List.mem_map.2 ⟨x, hx, rfl⟩, by rw [e1]; exact hFn, ⟨[], rfl⟩, hmono _ _ _ _ e4, e2, hs.drew, e3, fun j hj => ?_, ?_⟩
 ·rw [hrep, e1]
  simp only [true_iff]
  have := hcover j (by simpa using hj)
  simp only [List.contains_iff_mem] at this
  rcases this with (h | h) | h <;> simp [h]
 ·have hc : (Fs ++ Cs ++ Ts).length ≤ l.toArray.size := by
   have hnd : (Fs ++ Cs ++ Ts).Nodup := by
    rw [List.nodup_append]
    refine ⟨List.nodup_append.2 ⟨hFn, hCn, fun u hu v hv he => ?_⟩, hTn, fun u hu v hv he => ?_⟩
    ·subst he; have := (hF u hu).1.2; simp [hv] at this
    ·subst he
     rcases List.mem_append.1 hu with h | h
     ·have := (hF u h).2; simp [hv] at this
     ·have := (hC u h).2; simp [hv] at this
   have hlt : ∀ x ∈ Fs ++ Cs ++ Ts, x ∈ List.range l.toArray.size := by
    intro x hx
    rw [List.mem_range]
    simp only [List.mem_append] at hx
    rcases hx with (h | h) | h
    ·exact Nat.lt_of_lt_of_le (Nat.lt_succ_self _) (Nat.le_of_ble_eq_true (hF x h).1.1)
    ·exact Nat.lt_of_lt_of_le (Nat.lt_succ_self _) (Nat.le_of_ble_eq_true (hC x h).1)
    ·exact Nat.lt_of_lt_of_le (Nat.lt_succ_self _) (Nat.le_of_ble_eq_true (hT x h))
   exact yJ _ _ hnd fun x hx => by simpa using hlt x hx
  have hl : pend.length = Fs.length := by rw [← e1]; simp
  simp at hc
  rw [hl]
  simp
  omega
theorem Xf {id : Nat} (Fs Cs Ts : List Nat) (G0 : List Asn) {L0 : List Asn} {tl : List Oper} (hL : Sub L0 (L ++ G0)) (hm : c.P.follows .mixedOrders = true) (hB : zB l.toArray Fs Cs Ts = true) (hr : qC l.toArray Ts = true) (ht : jA l Ts = some tl)
  (h : FJ c l.toArray R L (fun E' => XJ c l.toArray L (fun E R G => RJ c l.toArray Q tl E R (L ++ G)) Cs E' R G0) Fs E) : CJ c (.region id l.toArray true) Q E R L0 := by
 have hB' := hB
 simp only [zB, Bool.and_eq_true, List.all_eq_true, Bool.not_eq_true', Bool.or_eq_true, decide_eq_true_eq] at hB'
 obtain ⟨⟨⟨⟨⟨⟨⟨⟨⟨⟨⟨⟨⟨⟨⟨hlow, hcover⟩, hFn⟩, hCn⟩, hTn⟩, hself⟩, hF⟩, hC⟩, hT⟩, hpair⟩, hrow⟩, hFs⟩, hCs⟩, hFC⟩, hFT⟩, hCT⟩ := hB'
 refine QfQ (KK := fun E R G => RJ c l.toArray Q tl E R (L ++ G)) Fs Cs Ts G0 hL hm hB (fun E R G h fuel listed a w hs hc hl hn hf hsat => ?_) h
 exact Qcp hlow Ts fuel listed a w hr hTn (fun j hj => Nat.lt_of_lt_of_le (Nat.lt_succ_self _) (Nat.le_of_ble_eq_true (hT j hj))) hs hc hl hn (zE ht (h a w hf hsat))
theorem jp {id : Nat} (Fs Cs Ts : List Nat) {tl : List Oper} (hm : c.P.follows .mixedOrders = true) (hB : zB l.toArray Fs Cs Ts = true) (hr : qC l.toArray Ts = true) (ht : jA l Ts = some tl)
  (h : FJ c l.toArray R L (fun E' => XJ c l.toArray L (fun E R G => RJ c l.toArray Q tl E R (L ++ G)) Cs E' R []) Fs E) : CJ c (.region id l.toArray true) Q E R L :=
 Xf Fs Cs Ts [] (by rw [List.append_nil]; exact .refl _) hm hB hr ht h
theorem Find.app {A : Asn} {L M : List Asn} (f : Find A L M) (X : List Asn) : Find A (L ++ X) (M ++ X) := by
 induction f with
 | head L => exact .head _
 | tail _ ih => exact .tail ih
theorem Split.app {L pre F : List Asn} (s : Split L pre F) (X : List Asn) : Split (L ++ X) pre (F ++ X) := by
 induction s with
 | nil L => exact .nil _
 | cons f _ ih => exact .cons (f.app X) ih
theorem Find.mid (A : Asn) : ∀ (M L : List Asn), Find A (M ++ A :: L) (M ++ L)
 | [], L => .head _
 | B :: M, L => .tail (Find.mid A M L)
theorem QhR {K : Env → Prop} {i d : Nat} {is : List Nat} {o : Oper} {v : Value} (ho : yl l i = some o) (hd : o.dst = some d) (hn : Nat.blt d c.n = true) (hw : Wn c l.toArray E o true) (y : ∀ R', R.le R' → ∀ G, Yld c E R' (L ++ G) o v)
  (h : FJ c l.toArray R L K is ((d, v) :: E)) : FJ c l.toArray R L K (i :: is) E :=
 ⟨v, _, ⟨o, d, by rw [yk] at ho; simpa using ho, hd, hn, rfl, .inl ⟨hw, y⟩⟩, h⟩
theorem QfD {K : Env → Prop} {i d : Nat} {is : List Nat} {o : Oper} (ho : yl l i = some o) (hd : o.dst = some d) (hn : Nat.blt d c.n = true) (hw : Wn c l.toArray E o false)
  (h : FJ c l.toArray R L K is ((d, undef) :: E)) : FJ c l.toArray R L K (i :: is) E :=
 ⟨undef, _, ⟨o, d, by rw [yk] at ho; simpa using ho, hd, hn, rfl, .inr ⟨hw, rfl⟩⟩, h⟩
theorem QZ {K : Env → Prop} (h : K E) : FJ c l.toArray R L K [] E := h
theorem QkL {K : Env → Prop} {is : List Nat} (t : Nat) {b : Bool} (e : lk E t = some (.bool b)) (ht : b = true → FJ c l.toArray R L K is E) (hf : b = false → FJ c l.toArray R L K is E) : FJ c l.toArray R L K is E := by
 cases b with
 | true => exact ht rfl
 | false => exact hf rfl
theorem Xg {ops : Array Oper} {K : Env → Hp → List Asn → Prop} {G : List Asn} (h : K E R G) : XJ c ops L K [] E R G := h
end
def slc (e : TypeId) (sz : Nat) (v : Value) (n : Nat) (xs : List Value) : Asn := fun h => xs.length = n * sz ∧
 ((v = .slice none 0 0 ∧ n = 0) ∨ ∃ g cap fz pre post, v = .slice (some ⟨g, List.length pre, none⟩) n cap ∧ h g = some (.cells ⟨pre ++ (xs ++ post)⟩ e fz) ∧ (∀ o, o < (pre ++ (xs ++ post)).length → ¬ (fz.1 ≤ o ∧ o < fz.2)) ∧
   n ≤ cap ∧ cap ≤ maxLen ∧ cap * sz ≤ (xs ++ post).length)
theorem Yk (e : TypeId) (sz : Nat) (h : Hp) : slc e sz (.slice none 0 0) 0 [] h := ⟨by simp, .inl ⟨rfl, rfl⟩⟩
theorem Sat.add {σ : World} {R : Hp} {L : List Asn} {w : World} {A : Asn} (hA : ∀ h, A h) (s : Sat σ R L w) : Sat σ R (A :: L) w :=
 ⟨s.os, s.tape, s.output, s.ro, let ⟨g, a, b, c⟩ := s.own; ⟨g, a, b, Hp.emp, g, fun _ _ h => (by cases h), Hp.le_refl g, fun _ => .inl rfl, hA _, c⟩⟩
theorem Sat.pure {σ : World} {R : Hp} {L : List Asn} {w : World} {A : Asn} {p : Prop} (hA : ∀ h, A h → p) (s : Sat σ R (A :: L) w) : p :=
 let ⟨g, a, b, h1, h2, c⟩ := s.own; hA _ c.2.2.2.1
section
variable {c : Cx} {ops : Array Oper} {Q : Exit → Act → World → Prop} {E : Env} {R : Hp} {L M : List Asn} {A B : Asn}
theorem QaC {l : List Oper} {p : Prop} (f : Find A L M) (hA : ∀ h, A h → p) (h : p → RJ c ops Q l E R L) : RJ c ops Q l E R L :=
 fun a w ha hs => h (Sat.pure hA (hs.find f)) a w ha hs
theorem ZG {x : Code} {p : Prop} (f : Find A L M) (hA : ∀ h, A h → p) (h : p → CJ c x Q E R L) : CJ c x Q E R L :=
 fun a w ha hs => h (Sat.pure hA (hs.find f)) a w ha hs
theorem Xt {l : List Oper} (f : Find A L M) (k : ∀ h, A h → B h) (h : RJ c ops Q l E R (B :: M)) : RJ c ops Q l E R L :=
 fun a w ha hs => h a w ha ((hs.find f).turn k)
theorem YO {l : List Oper} (hA : ∀ h, A h) (h : RJ c ops Q l E R (A :: L)) : RJ c ops Q l E R L := fun a w ha hs => h a w ha (hs.add hA)
theorem QeA {x : Code} (hA : ∀ h, A h) (h : CJ c x Q E R (A :: L)) : CJ c x Q E R L := fun a w ha hs => h a w ha (hs.add hA)
theorem Sat.split {σ : World} {w : World} {As : List Asn} (k : ∀ h, A h → stars As h) (s : Sat σ R (A :: L) w) : Sat σ R (As ++ L) w := by
 obtain ⟨g, a, b, h1, h2, c1, c2, c3, c4, c5⟩ := s.own
 refine ⟨s.os, s.tape, s.output, s.ro, g, a, b, ?_⟩
 have key : ∀ (As : List Asn) (h1 : Hp), h1.le g → h1.dis h2 → stars As h1 → stars (As ++ L) g := by
  intro As
  induction As with
  | nil => intro h1 _ _ _; exact Qbc c2 c5
  | cons B As ih =>
   rintro h1 l1 d1 ⟨k1, k2, e1, e2, e3, e4, e5⟩
   have hd2 : k2.dis h2 := Hp.dis_symm (Hp.dis_le (Hp.dis_symm d1) e2)
   have hd1 : k1.dis h2 := Hp.dis_symm (Hp.dis_le (Hp.dis_symm d1) e1)
   -- what is left lies in k2 and h2
   have key2 : ∀ (As : List Asn) (k2 : Hp), k2.dis h2 → stars As k2 → stars (As ++ L) (k2.un h2) := by
    intro As
    induction As with
    | nil => intro k2 hd _; exact Qbc (Hp.le_un_right hd) c5
    | cons C As ih2 =>
     rintro k2 hd ⟨m1, m2, f1, f2, f3, f4, f5⟩
     have hm2 : m2.dis h2 := Hp.dis_symm (Hp.dis_le (Hp.dis_symm hd) f2)
     have hm1 : m1.dis h2 := Hp.dis_symm (Hp.dis_le (Hp.dis_symm hd) f1)
     exact ⟨m1, m2.un h2, Hp.le_trans f1 (Hp.le_un_left _ _), Hp.un_le (Hp.le_trans f2 (Hp.le_un_left _ _)) (Hp.le_un_right hd), Hp.dis_un f3 hm1, f4, ih2 m2 hm2 f5⟩
   exact ⟨k1, k2.un h2, Hp.le_trans e1 l1, Hp.un_le (Hp.le_trans e2 l1) c2, Hp.dis_un e3 hd1, e4, key2 As k2 hd2 e5⟩
 exact key As h1 c1 c3 (k _ c4)
theorem Sat.join {σ : World} {w : World} : ∀ {As : List Asn} (k : ∀ h, stars As h → A h), Sat σ R (As ++ L) w → Sat σ R (A :: L) w := by
 intro As k s
 obtain ⟨g, a, b, c1⟩ := s.own
 refine ⟨s.os, s.tape, s.output, s.ro, g, a, b, ?_⟩
 have key : ∀ (As : List Asn) (g : Hp), stars (As ++ L) g → ∃ h1 h2 : Hp, h1.le g ∧ h2.le g ∧ h1.dis h2 ∧ stars As h1 ∧ stars L h2 := by
  intro As
  induction As with
  | nil => intro g s; exact ⟨Hp.emp, g, fun _ _ h => (by cases h), Hp.le_refl g, fun _ => .inl rfl, trivial, s⟩
  | cons B As ih =>
   rintro g ⟨k1, k2, e1, e2, e3, e4, e5⟩
   obtain ⟨m1, m2, f1, f2, f3, f4, f5⟩ := ih k2 e5
   have d1 : k1.dis m1 := Hp.dis_le e3 f1
   have d2 : k1.dis m2 := Hp.dis_le e3 f2
   exact ⟨k1.un m1, m2, Hp.un_le e1 (Hp.le_trans f1 e2), Hp.le_trans f2 e2, Hp.dis_symm (Hp.dis_un (Hp.dis_symm d2) (Hp.dis_symm f3)), ⟨k1, m1, Hp.le_un_left _ _, Hp.le_un_right d1, d1, e4, f4⟩, f5⟩
 obtain ⟨h1, h2, d1, d2, d3, d4, d5⟩ := key As g c1
 exact ⟨h1, h2, d1, d2, d3, k _ d4, d5⟩
end
theorem qx {g : Nat} {e : TypeId} {fz : Nat × Nat} : ∀ (vs : List Value) (pre post : List Value) (w : World), w.heap[g]? = some (.cells ⟨pre ++ post⟩ e fz) → vs.length ≤ post.length →
  (w.setCells g pre.length vs).heap[g]? = some (.cells ⟨pre ++ (vs ++ post.drop vs.length)⟩ e fz)
 | [], pre, post, w, hg, _ => by simpa [World.setCells] using hg
 | v :: vs, pre, [], w, hg, hl => by simp at hl
 | v :: vs, pre, u :: post, w, hg, hl => by
  have hlt2 := (Array.getElem?_eq_some_iff.1 hg).1
  have hg' : (w.setCell ⟨g, pre.length, none⟩ v).heap[g]? = some (.cells ⟨(pre ++ [v]) ++ post⟩ e fz) := by
   simp only [World.setCell, Array.getElem?_modify, hg]
   simp
  have := qx vs (pre ++ [v]) post _ hg' (by simpa using hl)
  simp only [List.length_append, List.length_cons, List.length_nil] at this
  simp only [World.setCells, List.length_cons, List.drop_succ_cons]
  rw [this]
  simp
theorem qg {g : Nat} : ∀ (vs : List Value) (o : Nat) (w : World) (k : Nat), k ≠ g → (w.setCells g o vs).heap[k]? = w.heap[k]?
 | [], _, _, _, _ => rfl
 | v :: vs, o, w, k, hk => by rw [World.setCells, qg vs _ _ k hk]; exact Below.heap_setCell _ _ _ _ hk
theorem qw {g : Nat} : ∀ (vs : List Value) (o : Nat) (w : World), (w.setCells g o vs).os = w.os ∧ (w.setCells g o vs).tape = w.tape ∧ (w.setCells g o vs).output = w.output
 | [], _, _ => ⟨rfl, rfl, rfl⟩
 | v :: vs, o, w => qw vs (o + 1) _
theorem row_cell {w : World} {g : Nat} {pre xs post : List Value} {e : TypeId} {fz : Nat × Nat} (hg : w.heap[g]? = some (.cells ⟨pre ++ (xs ++ post)⟩ e fz)) {j : Nat} {u : Value} (h : xs[j]? = some u) : w.cell? ⟨g, pre.length + j, none⟩ = some u := by
 have hlt := (List.getElem?_eq_some_iff.1 h).1
 simp only [World.cell?, hg]
 simp
 rw [List.getElem?_append_right (by omega), Nat.add_sub_cancel_left, List.getElem?_append_left hlt, h]
theorem Sat.slc_cases {σ : World} {R : Hp} {L : List Asn} {w : World} {e : TypeId} {sz n : Nat} {v : Value} {xs : List Value} (s : Sat σ R (slc e sz v n xs :: L) w) :
  xs.length = n * sz ∧ ((v = .slice none 0 0 ∧ n = 0 ∧ xs = []) ∨ ∃ g cap fz pre post, v = .slice (some ⟨g, List.length pre, none⟩) n cap ∧ (∀ o, o < (pre ++ (xs ++ post)).length → ¬ (fz.1 ≤ o ∧ o < fz.2)) ∧
  n ≤ cap ∧ cap ≤ maxLen ∧ cap * sz ≤ (xs ++ post).length ∧ Sat σ R ((fun h => h g = some (.cells ⟨pre ++ (xs ++ post)⟩ e fz)) :: L) w) := by
 obtain ⟨g, a, b, h1, h2, c1, c2, c3, c4, c5⟩ := s.own
 obtain ⟨hl, h⟩ := c4
 refine ⟨hl, ?_⟩
 rcases h with ⟨hv, hn⟩ | ⟨g', cap, fz, pre, post, k1, k2, k3, k4, k5, k6⟩
 ·subst hn; exact .inl ⟨hv, rfl, by simpa using hl⟩
 ·exact .inr ⟨g', cap, fz, pre, post, k1, k3, k4, k5, k6, s.os, s.tape, s.output, s.ro, g, a, b, h1, h2, c1, c2, c3, k2, c5⟩
theorem YW {σ : World} {R : Hp} {L : List Asn} {w : World} {g : Nat} {o : Obj} (s : Sat σ R ((fun h => h g = some o) :: L) w) : w.heap[g]? = some o := by
 obtain ⟨q, a, _, h1, h2, c⟩ := s.own
 exact a _ _ (c.1 _ _ c.2.2.2.1)
def YT (v : Value) : Prop := ∀ b off n k, v = .slice (some ⟨b, off, none⟩) n k → off = 0
theorem QgB : YT (.slice none 0 0) := fun _ _ _ _ h => by cases h
theorem QbY (b n k : Nat) : YT (.slice (some ⟨b, 0, none⟩) n k) := fun _ _ _ _ h => by cases h; rfl
structure AppT (P : Program) (t e : TypeId) (sz by_ : Nat) : Prop where
 under : P.underlying t = some (.slice e)
 info : ∃ (i : TypeInfo) (z : Value), P.info? e = some i ∧ i.zero = some z ∧ i.size = sz ∧ i.bytes = by_ ∧ z.cells.size = sz
theorem Qga {P : Program} {w : World} {t tx ty e : TypeId} {sz by_ : Nat} (hT : AppT P t e sz by_) {v x : Value} {n m : Nat} {xs news : List Value} {σ : World} {R : Hp} {L : List Asn} (hs : Sat σ R (slc e sz v n xs :: L) w)
  (hsrc : Src P sz tx x m news w) (hbd : (n + m) * by_ ≤ 140737488355328) (hmx : n + m ≤ maxLen) :
  ∃ v' w', (Builtin.append_ #[t, tx] ty #[v, x]).run P w = .ok v' w' ∧ Sat σ R (slc e sz v' (n + m) (xs ++ news) :: L) w' ∧ (YT v → YT v') := by
 obtain ⟨ht, i, z, hi, hz, rfl, rfl, hzs⟩ := hT
 obtain ⟨hxl, hc⟩ := hs.slc_cases
 have hl := hsrc.newsLen
 have hlx : (xs ++ news).length = (n + m) * i.size := by rw [List.length_append, hxl, hl, Nat.add_mul]
 have hmx' : ((n + m : Nat) : Int) ≤ 9223372036854775807 := by simp only [maxLen] at hmx; omega
 -- a new row
 have grown : ∀ old, Sat σ R (slc e i.size (.slice (some ⟨w.heap.size, 0, none⟩) (n + m) (grownCap w (n + m) old e)) (n + m) (xs ++ news) :: L)
   (w.drew.alloc (.cells ((xs ++ news).toArray ++ Builtin.zeroCells z.cells (grownCap w (n + m) old e - (n + m))) e)) := by
  intro old
  have hs2 : Sat σ R L w := hs.sub (.drop (.refl _))
  refine Sat.turn (fun h hh => ?_) (hs2.drew.alloc _)
  have hge := grownCap_ge w (n + m) old e
  refine ⟨hlx, .inr ⟨w.heap.size, _, (0, 0), [], (Builtin.zeroCells z.cells (grownCap w (n + m) old e - (n + m))).toList, rfl, ?_, fun o _ h => by simp at h, hge, grownCap_le_maxLen w _ _ _ hmx, ?_⟩⟩
  ·rw [show w.drew.heap.size = w.heap.size from rfl] at hh
   rw [hh]
   congr 2
   apply Array.ext'
   simp
  ·rw [List.length_append, hlx, Array.length_toList, size_zeroCells, hzs, ← Nat.add_mul]
   exact Nat.le_of_eq (by congr 1; omega)
 rcases hc with ⟨rfl, rfl, rfl⟩ | ⟨g, cap, fz, pre, post, rfl, hf, hnc, hcm, hcs, hsg⟩
 · -- nil
  rcases Nat.eq_zero_or_pos m with rfl | hm
  ·have hnews : news = [] := by simpa using hl
   subst hnews
   refine ⟨.slice none 0 0, w, ?_, hs, id⟩
   have hc := hsrc.cells
   rcases hsrc.kind with ⟨e', hk⟩ | hk <;> simp [Builtin.append_, run_underlying ht, run_underlying hk, sizeOf, typeInfo, hi, hsrc.len, hc]
  ·refine ⟨_, _, run_append_grow_src w t tx ty e i z ht hi hz none 0 0 [] (run_firstCells_none _ _ _ _ _) x m news hsrc (by omega) (by simpa using hmx') ?_, by simpa using grown 0, fun _ => QbY _ _ _⟩
   exact growslice_fits (by omega) (by simpa using hbd)
 ·have hg := YW hsg
  rcases Nat.lt_or_ge cap (n + m) with hlt | hroom
  ·refine ⟨_, _, run_append_grow_src w t tx ty e i z ht hi hz _ n cap xs ?_ x m news hsrc hlt hmx' (growslice_fits hlt hbd), grown cap, fun _ => QbY _ _ _⟩
   exact run_firstCells_some w.drew i.size n _ n cap xs hxl (fun j u hj => by rw [Yr]; exact row_cell hg hj)
  ·have hms : m * i.size ≤ post.length := by
    have h1 : (n + m) * i.size ≤ cap * i.size := Nat.mul_le_mul_right _ hroom
    rw [Nat.add_mul] at h1
    rw [List.length_append] at hcs
    omega
   have hpx : pre.length + n * i.size = (pre ++ xs).length := by rw [List.length_append, hxl]
   have hg2 : w.heap[g]? = some (.cells ⟨(pre ++ xs) ++ post⟩ e fz) := by rw [hg]; simp
   refine ⟨_, _, run_append_room_src w t tx ty e i ht hi g pre.length n cap x m news hsrc hroom (fun j hj => ?_) (fun j hj => ?_), ?_, fun h b off n k e => ?_⟩
   ·have hj' : pre.length + n * i.size + j < ((pre ++ xs) ++ post).length := by rw [List.length_append, ← hpx]; omega
    simp only [World.cell?, hg2]
    simp at hj' ⊢
    omega
   ·have hj' : pre.length + n * i.size + j < (pre ++ (xs ++ post)).length := by rw [← List.append_assoc, List.length_append, ← hpx]; omega
    have := hf _ hj'
    obtain ⟨lo, hi'⟩ := fz
    simp only at this
    simp [World.frozen?, hg]
    omega
   ·have hg3 := qx news (pre ++ xs) post w hg2 (by omega)
    rw [← hpx] at hg3
    obtain ⟨o1, o2, o3⟩ := qw (g := g) news (pre.length + n * i.size) w
    have hsat := Sat.put (o' := .cells ⟨pre ++ xs ++ (news ++ List.drop news.length post)⟩ e fz) hsg o1 o2 o3 (fun k hk _ => qg news _ w k hk) hg3
    refine Sat.turn (fun h hh => ?_) hsat
    refine ⟨hlx, .inr ⟨g, cap, fz, pre, post.drop news.length, rfl, by rw [hh]; simp, ?_, hroom, hcm, ?_⟩⟩
    ·intro o ho
     refine hf o ?_
     simp only [List.length_append, List.length_drop] at ho ⊢
     omega
    ·simp only [List.length_append, List.length_drop] at hcs ⊢
     omega
   ·cases e; exact h _ _ _ _ rfl
def Zx (v : Value) (j : Nat) : Value := match v with | .slice (some a) _ _ => .pointer (some (a.add j)) | _ => .pointer none
def zM (v : Value) (l h sz : Nat) : Value := match v with | .slice q _ k => .slice (Yy q l k sz) (h - l) (k - l) | _ => v
def XC (l : List UInt8) : List Value := l.map fun b => .int .u8 (b.toNat : Int)
theorem Zr (l : List UInt8) : (XC l).length = l.length := by simp [XC]
theorem jL (l m : List UInt8) : XC l ++ XC m = XC (l ++ m) := by simp [XC]
theorem Qdj (l : List UInt8) : byteCells (str l) = XC l := by simp [byteCells, XC]
theorem Qe6 (l : List UInt8) (n : Nat) : (XC l).take n = XC (l.take n) := by simp [XC, List.map_take]
theorem Qj5 {e : TypeId} {sz n : Nat} {v : Value} {xs : List Value} (h : Hp) (hs : slc e sz v n xs h) : xs.length = n * sz := hs.1
theorem Zu {e : TypeId} {sz n : Nat} {v : Value} {xs : List Value} (h : Hp) (hs : slc e sz v n xs h) : ∃ q k, v = .slice q n k ∧ n ≤ k ∧ k ≤ maxLen ∧ (0 < n → ∃ b off, q = some ⟨b, off, none⟩) := by
 rcases hs.2 with ⟨hv, hn⟩ | ⟨g, cap, fz, pre, post, hv, _, _, h1, h2, _⟩
 ·subst hn; exact ⟨none, 0, hv, by omega, by simp [maxLen], fun h => by omega⟩
 ·exact ⟨_, _, hv, h1, h2, fun _ => ⟨_, _, rfl⟩⟩
theorem qc {e : TypeId} {sz n : Nat} {v : Value} {xs : List Value} (h : Hp) (hs : slc e sz v n xs h) : v.oneCell' = true := by
 obtain ⟨q, k, rfl, _⟩ := Zu h hs; rfl
theorem Qja {v : Value} {l h sz : Nat} (hv : v.oneCell' = true) : (zM v l h sz).oneCell' = true := by
 unfold zM; split
 ·rfl
 ·exact hv
theorem Qj6 {e : TypeId} {sz n : Nat} {v : Value} {xs : List Value} {l k : Nat} (hlk : l ≤ k) (hkn : k ≤ n) (h : Hp) (hs : slc e sz v n xs h) : slc e sz (zM v l k sz) (k - l) ((xs.drop (l * sz)).take ((k - l) * sz)) h := by
 obtain ⟨hl, hs⟩ := hs
 have hmul : l * sz ≤ n * sz := Nat.mul_le_mul_right _ (by omega)
 have hmul2 : k * sz ≤ n * sz := Nat.mul_le_mul_right _ (by omega)
 have hmul3 : (k - l) * sz = k * sz - l * sz := Nat.sub_mul _ _ _
 have hmul4 : l * sz ≤ k * sz := Nat.mul_le_mul_right _ hlk
 refine ⟨by rw [List.length_take, List.length_drop, hl]; omega, ?_⟩
 rcases hs with ⟨rfl, rfl⟩ | ⟨g, cap, fz, pre, post, rfl, h1, h2, h3, h4, h5⟩
 ·obtain rfl : l = 0 := by omega
  obtain rfl : k = 0 := by omega
  exact .inl ⟨rfl, rfl⟩
 ·have hx : xs = xs.take (l * sz) ++ ((xs.drop (l * sz)).take ((k - l) * sz) ++ (xs.drop (l * sz)).drop ((k - l) * sz)) := by rw [List.take_append_drop, List.take_append_drop]
  have hlen : (xs.take (l * sz)).length = l * sz := by rw [List.length_take]; omega
  have e1 : pre ++ (xs ++ post) = (pre ++ xs.take (l * sz)) ++ ((xs.drop (l * sz)).take ((k - l) * sz) ++ ((xs.drop (l * sz)).drop ((k - l) * sz) ++ post)) := by
   simp only [List.append_assoc, List.take_append_drop]
   rw [← List.append_assoc (xs.drop (l * sz) |>.take _), List.take_append_drop, ← List.append_assoc (xs.take _), List.take_append_drop]
  rcases Nat.lt_or_ge l cap with hlc | hlc
  ·refine .inr ⟨g, cap - l, fz, pre ++ xs.take (l * sz), (xs.drop (l * sz)).drop ((k - l) * sz) ++ post, ?_, by rw [h1, e1], by rw [← e1]; exact h2, by omega, by omega, ?_⟩
   ·have : ¬ cap = l := by omega
    simp only [zM, Yy, if_neg this, Option.map_some, Yr, List.length_append, hlen]
   ·rw [← List.append_assoc, List.take_append_drop, List.length_append, List.length_drop, hl]
    rw [List.length_append, hl] at h5
    have : (cap - l) * sz = cap * sz - l * sz := Nat.sub_mul _ _ _
    omega
  ·obtain rfl : cap = l := by omega
   obtain rfl : k = cap := by omega
   obtain rfl : n = k := by omega
   refine .inr ⟨g, 0, fz, pre, xs ++ post, ?_, ?_, ?_, by omega, by simp [maxLen], by simp⟩
   ·simp only [zM, Yy, if_true, Nat.sub_self]
   ·simpa using h1
   ·simpa using h2
theorem Qj4 {e : TypeId} {n k : Nat} {v : Value} {bs : List UInt8} (hk : k ≤ n) (h : Hp) (hs : slc e 1 v n (XC bs) h) : slc e 1 (zM v 0 k 1) (bs.take k).length (XC (bs.take k)) h := by
 have hl := hs.1
 rw [Zr, Nat.mul_one] at hl
 have := Qj6 (Nat.zero_le k) hk h hs
 have e1 : (bs.take k).length = k := by rw [List.length_take]; omega
 rw [e1, ← Qe6]
 simpa using this
theorem zu {e : TypeId} {sz n : Nat} {v : Value} {xs : List Value} {j : Nat} {u : Value} (hj : nth xs j = some u) {σ : World} {R : Hp} {L : List Asn} {w : World} (s : Sat σ R (slc e sz v n xs :: L) w) :
  ∃ b off, Zx v j = .pointer (some ⟨b, off, none⟩) ∧ w.cell? ⟨b, off, none⟩ = some u := by
 obtain ⟨hl, h⟩ := s.slc_cases
 rw [Zw] at hj
 rcases h with ⟨rfl, rfl, rfl⟩ | ⟨g, cap, fz, pre, post, rfl, _, _, _, _, hs⟩
 ·simp at hj
 ·exact ⟨g, pre.length + j, by simp [Zx, Yr], row_cell (YW hs) hj⟩
theorem yY {e : TypeId} {sz n : Nat} {v : Value} {xs : List Value} (hn : 0 < n) {σ : World} {R : Hp} {L : List Asn} {w : World} (s : Sat σ R (slc e sz v n xs :: L) w) :
  ∃ b off cap, v = .slice (some ⟨b, off, none⟩) n cap ∧ ∀ j, Zx v j = .pointer (some ⟨b, off + j, none⟩) := by
 obtain ⟨hl, h⟩ := s.slc_cases
 rcases h with ⟨rfl, rfl, rfl⟩ | ⟨g, cap, fz, pre, post, rfl, _, _, _, _, hs⟩
 ·omega
 ·exact ⟨g, pre.length, cap, rfl, fun j => by simp [Zx, Yr]⟩
theorem Sat.slc_set {σ : World} {R : Hp} {L : List Asn} {w : World} {e : TypeId} {sz n : Nat} {v : Value} {xs : List Value} {vs : List Value} {j b off : Nat} (s : Sat σ R (slc e sz v n xs :: L) w) (hj : j + vs.length ≤ xs.length) (hc : Zx v j = .pointer (some ⟨b, off, none⟩)) :
  Sat σ R (slc e sz v n (xs.take j ++ vs ++ xs.drop (j + vs.length)) :: L) (w.setCells b off vs) ∧ (∀ i, i < vs.length → (w.cell? ⟨b, off + i, none⟩).isSome = true ∧ w.frozen? ⟨b, off + i, none⟩ = false) := by
 obtain ⟨hl, h⟩ := s.slc_cases
 rcases h with ⟨rfl, rfl, rfl⟩ | ⟨g, cap, fz, pre, post, rfl, h2, h3, h4, h5, hs⟩
 ·simp [Zx] at hc
 ·simp only [Zx, Yr, Value.pointer.injEq, Option.some.injEq, Addr.mk.injEq] at hc
  obtain ⟨rfl, rfl, -⟩ := hc
  have hg := YW hs
  have hlen : (pre ++ xs.take j).length = pre.length + j := by rw [List.length_append, List.length_take]; omega
  have e1 : pre ++ (xs ++ post) = (pre ++ xs.take j) ++ (xs.drop j ++ post) := by
   rw [List.append_assoc, ← List.append_assoc (xs.take j), List.take_append_drop]
  have hg2 := hg
  rw [e1] at hg2
  have hg3 := qx vs (pre ++ xs.take j) (xs.drop j ++ post) w hg2 (by rw [List.length_append, List.length_drop]; omega)
  rw [hlen] at hg3
  obtain ⟨o1, o2, o3⟩ := qw (g := g) vs (pre.length + j) w
  have hsat := Sat.put (o' := .cells ⟨pre ++ xs.take j ++ (vs ++ (xs.drop j ++ post).drop vs.length)⟩ e fz) hs o1 o2 o3 (fun k hk _ => qg vs _ w k hk) hg3
  have e2 : (xs.drop j ++ post).drop vs.length = xs.drop (j + vs.length) ++ post := by
   rw [List.drop_append_of_le_length (by rw [List.length_drop]; omega), List.drop_drop]
  have hxl : (xs.take j ++ vs ++ xs.drop (j + vs.length)).length = xs.length := by simp only [List.length_append, List.length_take, List.length_drop]; omega
  refine ⟨Sat.turn (fun h hh => ⟨by rw [hxl]; exact hl, .inr ⟨g, cap, fz, pre, post, rfl, ?_, ?_, h3, h4, ?_⟩⟩) hsat, fun i hi => ⟨?_, ?_⟩⟩
  ·rw [hh, e2]; simp
  ·intro o ho; refine h2 o ?_; simp only [List.length_append] at ho hxl ⊢; omega
  ·rw [List.length_append, hxl, ← List.length_append]; exact h5
  ·have hj' : pre.length + j + i < (pre ++ (xs ++ post)).length := by simp only [List.length_append]; omega
   simp only [World.cell?, hg]
   simp at hj' ⊢
   omega
  ·have hj' : pre.length + j + i < (pre ++ (xs ++ post)).length := by simp only [List.length_append]; omega
   have := h2 _ hj'
   obtain ⟨lo, hi'⟩ := fz
   simp only at this
   simp [World.frozen?, hg]
   omega

section
variable {c : Cx} {ops : Array Oper} {Q : Exit → Act → World → Prop} {E : Env} {R : Hp} {L M : List Asn} {rest : List Oper} {d : Option Tmp} {ty : TypeId} {p : String} {af : Array Edge} {g : Option (Nat × Bool)}
def Qat (c : Cx) (R : Hp) (L : List Asn) (tx : TypeId) (sz : Nat) (x : Value) (m : Nat) (news : List Value) : Prop := ∀ w, Sat c.σ R L w → Src c.P sz tx x m news w
theorem Qfk {tx : TypeId} {s : List UInt8} (hk : c.P.underlying tx = some .string) : Qat c R L tx 1 (.string (str s)) s.length (XC s) := fun w _ => by
 have := Src.ofString w hk (str s)
 rwa [Qdj, YN] at this
theorem YP {tx e' e : TypeId} {sz n : Nat} {v : Value} {xs : List Value} (hk : c.P.underlying tx = some (.slice e')) (f : Find (slc e sz v n xs) L M) (h1 : ∀ u ∈ xs, u.oneCell' = true) : Qat c R L tx sz v n xs := fun w hs => by
 obtain ⟨hl, h⟩ := (hs.find f).slc_cases
 rcases h with ⟨rfl, rfl, rfl⟩ | ⟨g, cap, fz, pre, post, rfl, _, _, _, _, hs⟩
 ·exact Src.ofNil w hk 0
 ·exact Src.ofSlice w hk _ _ _ _ hl (fun j u hj => by rw [Yr]; exact row_cell (YW hs) hj) h1
theorem Qlo {tx e' : TypeId} {sz n b off k : Nat} {xs : List Value} (hk : c.P.underlying tx = some (.slice e')) (hc : ∀ (j : Nat) u, xs[j]? = some u → Hp.cell R ⟨b, off + j, none⟩ = some u) (hl : xs.length = n * sz) (h1 : ∀ u ∈ xs, u.oneCell' = true) : Qat c R L tx sz (.slice (some ⟨b, off, none⟩) n k) n xs := fun w hs =>
 Src.ofSlice w hk _ _ _ _ hl (fun j u hj => by rw [Yr]; exact hs.ro_cell (hc j u hj)) h1
theorem XE {d : Nat} {x y : Operand} {t tx e : TypeId} {sz by_ n m : Nat} {v u : Value} {xs news ys : List Value} (hT : AppT c.P t e sz by_)
  (hw : Wn c ops E ⟨some d, .call { callee := .builtin .append, args := #[x, y], argTypes := #[t, tx] }, ty, p, af, g⟩ true) (hn : Nat.blt d c.n = true)
  (e1 : ev E x = some v) (e2 : ev E y = some u) (f : Find (slc e sz v n xs) L M) (hsrc : Qat c R L tx sz u m news) (hys : xs ++ news = ys) (hbd : (n + m) * by_ ≤ 140737488355328) (hmx : n + m ≤ maxLen)
  (h : ∀ v', v'.oneCell' = true → (YT v → YT v') → RJ c ops Q rest ((d, v') :: E) R (slc e sz v' (n + m) ys :: M)) : RJ c ops Q (⟨some d, .call { callee := .builtin .append, args := #[x, y], argTypes := #[t, tx] }, ty, p, af, g⟩ :: rest) E R L := by
 intro a w hf hs
 unfold wpList
 rw [if_pos (hw a hf)]
 refine .inl ?_
 obtain ⟨v', w', h1, h2, h3⟩ := Qga (ty := ty) hT (hs.find f) (hsrc w hs) hbd hmx
 unfold Oper.wp
 have r : (execOp a.eval ⟨some d, .call { callee := .builtin .append, args := #[x, y], argTypes := #[t, tx] }, ty, p, af, g⟩).run c.P w = .ok (.value v') w' := by
  simp [execOp, resolve, invoke, builtin, hf.ev e1, hf.ev e2, h1]
 rw [r]
 simp only [Oper.upon]
 exact h v' (Sat.pure qc h2) h3 _ _ (hf.put hn v') (hys ▸ h2)
theorem Qy {x : Operand} {t e e' : TypeId} {sz n : Nat} {v : Value} {xs : List Value} (hT : c.P.underlying t = some (.slice e)) (e1 : ev E x = some v) (f : Find (slc e' sz v n xs) L M) :
  Yld c E R L ⟨d, .call { callee := .builtin .len, args := #[x], argTypes := #[t] }, ty, p, af, g⟩ (.int .i64 n) := fun a w hf hs => by
 obtain ⟨q, k, rfl, _⟩ := Sat.pure Zu (hs.find f)
 exact QB hT e1 a w hf hs
theorem QeJ {x : Operand} {lo hi : Option Operand} {t e e' : TypeId} {sz n l h : Nat} {v : Value} {xs : List Value} (hT : c.P.underlying t = some (.slice e)) (hS : ∀ w, (sizeOf e).run c.P w = .ok sz w) (e1 : ev E x = some v) (f : Find (slc e' sz v n xs) L M)
  (hl : match lo with | none => l = 0 | some o => ∃ ik, ev E o = some (.int ik (l : Int))) (hh : match hi with | none => h = n | some o => ∃ ik, ev E o = some (.int ik (h : Int))) (hb : l ≤ h ∧ h ≤ n) :
  Yld c E R L ⟨d, .slice t x lo hi none, ty, p, af, g⟩ (zM v l h sz) := fun a w hf hs => by
 obtain ⟨q, k, rfl, hnk, _⟩ := Sat.pure Zu (hs.find f)
 exact Zh hT hS e1 hl hh ⟨hb.1, by omega⟩ a w hf hs
theorem Qs {x y : Operand} {t e e' : TypeId} {sz n : Nat} {v : Value} {xs : List Value} {ik : IntKind} {i : Int} (hT : c.P.underlying t = some (.slice e)) (hS : ∀ w, (sizeOf e).run c.P w = .ok sz w) (e1 : ev E x = some v) (e2 : ev E y = some (.int ik i))
  (f : Find (slc e' sz v n xs) L M) (h : 0 ≤ i ∧ i < n) : Yld c E R L ⟨d, .indexAddr t x y, ty, p, af, g⟩ (Zx v (i.toNat * sz)) := fun a w hf hs => by
 obtain ⟨b, off, cap, rfl, hc⟩ := yY (by omega) (hs.find f)
 rw [hc]
 exact Qv hT hS e1 e2 h a w hf hs
theorem Zt {x : Operand} {s ft e' : TypeId} {fi k j sz n : Nat} {v : Value} {xs : List Value} {fs : Array Field} (hS : c.P.underlying s = some (.struct fs)) (hF : QaJ fs fi = some (ft, k)) {m : Nat} (hm : m ≠ 0) (hZ : ∀ w, (sizeOf ft).run c.P w = .ok m w)
  (e : ev E x = some (Zx v j)) (f : Find (slc e' sz v n xs) L M) (hn : 0 < n) : Yld c E R L ⟨d, .fieldAddr s x fi, ty, p, af, g⟩ (Zx v (j + k)) := fun a w hf hs => by
 obtain ⟨b, off, cap, rfl, hc⟩ := yY hn (hs.find f)
 rw [hc, ← Nat.add_assoc]
 exact QaW hS hF hm hZ (e.trans (by rw [hc])) a w hf hs
theorem Xx {x : Operand} {t e' : TypeId} {j sz n : Nat} {v u : Value} {xs : List Value} (hT : One c.P t) (e : ev E x = some (Zx v j)) (f : Find (slc e' sz v n xs) L M) (hu : nth xs j = some u) : Yld c E R L ⟨d, .load t x, ty, p, af, g⟩ u := fun a w hf hs => by
 obtain ⟨b, off, h1, h2⟩ := zu hu (hs.find f)
 rw [h1] at e
 refine jR (L := L) (R := R) hT e (fun w hs => ?_) a w hf hs
 obtain ⟨b', off', h1', h2'⟩ := zu hu (hs.find f)
 rw [h1] at h1'
 cases h1'
 exact h2'
theorem QE {x : Operand} {t e' : TypeId} {j sz n m : Nat} {v : Value} {xs vs : List Value} (hT : qp c.P t m) (e : ev E x = some (Zx v j)) (f : Find (slc e' sz v n xs) L M) (hv : (xs.drop j).take m = vs) (hm : vs.length = m) (hn : 0 < n) : Yld c E R L ⟨d, .load t x, ty, p, af, g⟩ (.agg ⟨vs⟩) := fun a w hf hs => by
 obtain ⟨b, off, cap, rfl, hc⟩ := yY hn (hs.find f)
 rw [hc] at e
 refine js (L := L) (R := R) hT hm e (fun w hs i u hi => ?_) a w hf hs
 subst hv
 rw [List.getElem?_take] at hi
 split at hi
 ·rw [List.getElem?_drop] at hi
  obtain ⟨b', off', h1', h2'⟩ := zu (j := j + i) (by rw [Zw]; exact hi) (hs.find f)
  rw [hc] at h1'
  simp only [Value.pointer.injEq, Option.some.injEq, Addr.mk.injEq] at h1'
  obtain ⟨rfl, rfl, -⟩ := h1'
  rw [Nat.add_assoc]; exact h2'
 ·cases hi
theorem ZD {x y : Operand} {t e' : TypeId} {j sz n : Nat} {v u : Value} {xs ys : List Value} (hT : One c.P t) (hw : Wn c ops E ⟨none, .store t x y, ty, p, af, g⟩ true) (e1 : ev E x = some (Zx v j)) (e2 : ev E y = some u) (hu : u.oneCell' = true)
  (f : Find (slc e' sz v n xs) L M) (hj : j < xs.length) (hys : ZJ xs j u = ys) (hn : 0 < n) (h : RJ c ops Q rest E R (slc e' sz v n ys :: M)) : RJ c ops Q (⟨none, .store t x y, ty, p, af, g⟩ :: rest) E R L := by
 refine jf hw rfl (fun a w hf hs => ?_) h
 obtain ⟨b, off, cap, hv, hc⟩ := yY hn (hs.find f)
 have hset := Sat.slc_set (vs := [u]) (hs.find f) (j := j) hj (hc j)
 obtain ⟨hs2, hcell⟩ := hset
 have hcell := hcell 0 (by simp)
 simp only [Nat.add_zero] at hcell
 obtain ⟨z, hz⟩ := Option.isSome_iff_exists.1 hcell.1
 have hcu : u.cells = #[u] := by cases u <;> first | rfl | simp [Value.oneCell'] at hu
 have hst : (store ⟨b, off + j, none⟩ u).run c.P w = .ok () (w.setCell ⟨b, off + j, none⟩ u) := by
  have hfz := hcell.2
  cases u <;> first | (simp [Value.oneCell'] at hu; done) | simp [store, Sem.run, hz, hfz]
 have e1' := e1
 rw [hc] at e1'
 have hye : xs.take j ++ [u] ++ xs.drop (j + [u].length) = ys := by
  rw [← hys, yF]
  simp only [List.length_cons, List.length_nil, List.append_assoc, List.singleton_append]
  rw [List.set_eq_take_append_cons_drop, if_pos hj]
 rw [hye] at hs2
 refine ⟨_, ?_, hs2⟩
 simp [execOp, hf.ev e1', hf.ev e2, Instr.storeAt, Instr.sureAddr, storeVar, hT.2, hcu, storeCells, Yr, hst, World.setCells]
theorem qG {x : Operand} {s t e e' : TypeId} {n : Nat} {v : Value} {bs : List UInt8} (hS : c.P.underlying s = some (.slice e)) (hE : c.P.underlying e = some (.int .u8)) (hT : c.P.underlying t = some .string)
  (e1 : ev E x = some v) (f : Find (slc e' 1 v n (XC bs)) L M) : Yld c E R L ⟨d, .convert s t x, ty, p, af, g⟩ (.string (str bs)) := fun a w hf hs => by
 obtain ⟨hl, h⟩ := (hs.find f).slc_cases
 rcases h with ⟨rfl, rfl, h0⟩ | ⟨q, cap, fz, pre, post, rfl, _, _, _, _, hs2⟩
 ·have : bs = [] := by simpa [XC] using h0
  subst this
  have r := run_convert_bytes_nil (P := c.P) w s e hS hE 0 0 t hT
  have e0 : (ByteArray.empty) = str [] := rfl
  simp [execOp, hf.ev e1, r, Oper.quietUpon, e0]
 ·refine QeN hS hE hT e1 (by rw [Zr] at hl; omega) (fun w hs j u hj => ?_) a w hf hs
  have hx : (XC bs)[j]? = some (.int .u8 (u.toNat : Int)) := by simp [XC, hj]
  obtain ⟨b', off', h1', h2'⟩ := zu (by rw [Zw]; exact hx) (hs.find f)
  simp only [Zx, Yr, Value.pointer.injEq, Option.some.injEq, Addr.mk.injEq] at h1'
  obtain ⟨rfl, rfl, -⟩ := h1'
  exact h2'
theorem Qit {d : Nat} {x : Operand} {s t e : TypeId} {bs : List UInt8} (hw : Wn c ops E ⟨some d, .convert s t x, ty, p, af, g⟩ true) (hn : Nat.blt d c.n = true) (hS : c.P.underlying s = some .string) (hT : c.P.underlying t = some (.slice e)) (hE : c.P.underlying e = some (.int .u8))
  (e1 : ev E x = some (.string (str bs))) (hm : bs.length ≤ maxLen) (h : ∀ v', v'.oneCell' = true → RJ c ops Q rest ((d, v') :: E) R (slc e 1 v' bs.length (XC bs) :: L)) : RJ c ops Q (⟨some d, .convert s t x, ty, p, af, g⟩ :: rest) E R L := by
 intro a w hf hs
 unfold wpList
 rw [if_pos (hw a hf)]
 refine .inl ?_
 unfold Oper.wp
 have r := run_bytes_of_string (P := c.P) w s t e (str bs) hS hT hE
 simp only [execOp, hf.ev e1, Sem.run_bind, r, Result.andThen_ok, Sem.run_pure, Oper.upon]
 refine h _ rfl _ _ (hf.put hn _) ?_
 refine Sat.turn (fun h hh => ?_) (hs.drew.alloc (.cells (bytesRow (str bs) (grownCap w (str bs).size 0 e)) e ((bytesRow (str bs) (grownCap w (str bs).size 0 e)).size, (bytesRow (str bs) (grownCap w (str bs).size 0 e)).size + 1)))
 have hge := grownCap_ge w (str bs).size 0 e
 have hle := grownCap_le_maxLen w (str bs).size 0 e (by rw [YN]; exact hm)
 have hrow : bytesRow (str bs) (grownCap w (str bs).size 0 e) = ⟨[] ++ (XC bs ++ List.replicate (grownCap w (str bs).size 0 e - (str bs).size) (Value.int .u8 0))⟩ := by
  apply Array.ext'; simp [bytesRow, XC]
 refine ⟨by rw [Zr]; omega, .inr ⟨w.heap.size, grownCap w (str bs).size 0 e, ((bytesRow (str bs) (grownCap w (str bs).size 0 e)).size, (bytesRow (str bs) (grownCap w (str bs).size 0 e)).size + 1), [],
  List.replicate (grownCap w (str bs).size 0 e - (str bs).size) (Value.int .u8 0), by rw [YN]; rfl, ?_, fun o ho => ?_, by rw [YN] at hge; exact hge, hle, ?_⟩⟩
 ·rw [← hrow]; exact hh
 ·have hsz : (bytesRow (str bs) (grownCap w (str bs).size 0 e)).size = ([] ++ (XC bs ++ List.replicate (grownCap w (str bs).size 0 e - (str bs).size) (Value.int .u8 0))).length := by rw [hrow]; rfl
  simp only [hsz]
  omega
 ·rw [List.length_append, Zr, List.length_replicate, YN]
  rw [YN] at hge
  omega
theorem jr {x y : Operand} {ts : Array TypeId} {k : IntKind} {m n : Int} (e1 : ev E x = some (.int k m)) (e2 : ev E y = some (.int k n)) :
  Yld c E R L ⟨d, .call { callee := .builtin .max, args := #[x, y], argTypes := ts }, ty, p, af, g⟩ (.int k (max m n)) := fun _ w hf _ => by
 have r : (Builtin.max_ ts ty #[.int k m, .int k n]).run c.P w = .ok (.int k (max m n)) w := by
  simp [Builtin.max_, Builtin.max2]; omega
 simp [execOp, resolve, invoke, builtin, hf.ev e1, hf.ev e2, r, Oper.quietUpon]
theorem Qav {x y : Operand} {ts : Array TypeId} {k : IntKind} {m n : Int} (e1 : ev E x = some (.int k m)) (e2 : ev E y = some (.int k n)) :
  Yld c E R L ⟨d, .call { callee := .builtin .min, args := #[x, y], argTypes := ts }, ty, p, af, g⟩ (.int k (min m n)) := fun _ w hf _ => by
 have r : (Builtin.min_ ts ty #[.int k m, .int k n]).run c.P w = .ok (.int k (min m n)) w := by
  simp [Builtin.min_, Builtin.min2]; omega
 simp [execOp, resolve, invoke, builtin, hf.ev e1, hf.ev e2, r, Oper.quietUpon]
end
def nrm (Q : Exit → Act → World → Prop) : Exit → Act → World → Prop
 | .normal, a, w => Q .normal a w
 | _, _, _ => False
section
variable {c : Cx} {ops : Array Oper} {Q : Exit → Act → World → Prop} {R : Hp} {L : List Asn}
theorem zq : ∀ (fuel : Nat) (listed : Array Bool) (a : Act) (w : World) (P : Program), wpAny P .any ops (nrm Q) fuel listed a w → wpAny P .any ops Q fuel listed a w
 | 0, listed, a, w, P, h => h
 | fuel + 1, listed, a, w, P, h => ⟨h.1, fun i hi => by
   have := h.2 i hi
   have hu : ∀ {o : Oper} {K : Act → World → Prop} {r : Result Next}, o.upon P a K (nrm Q) r → o.upon P a K Q r := by
    intro o K r hr
    unfold Oper.upon at *
    split <;> simp_all [nrm]
    all_goals (first | exact hr.elim | skip)
    refine Calls.mono hr ?_
    rintro e w' he
    split <;> simp_all
    obtain ⟨_, _, hh⟩ := he
    exact hh.elim
   unfold wpOp at *
   cases ho : ops[i]? with
   | none => rw [ho] at this; exact zq fuel _ _ _ P this
   | some o =>
    rw [ho] at this
    simp only at this ⊢
    by_cases hw : Region.wanted o (yielded ops a.tmps) = true
    ·rw [if_pos hw] at this ⊢
     rcases this with h | h
     ·exact .inl (hu (Oper.wp_mono (fun a' w' h => zq fuel _ a' w' P h) h))
     ·obtain ⟨_, _, _, hh⟩ := h; exact hh.elim
    ·rw [if_neg hw] at this ⊢; exact zq fuel _ _ _ P this⟩
def TJ (c : Cx) (ops : Array Oper) (Q : Exit → Act → World → Prop) (n : Nat) (listed : Array Bool) (E : Env) (R : Hp) (L : List Asn) : Prop :=
 ∀ fuel a w, n ≤ fuel → Fr c.n E a → Sat c.σ R L w → wpAny c.P .any ops (nrm Q) fuel listed a w
def zn (n : Nat) (Ts : List Nat) : Array Bool := ⟨(List.range n).map fun j => !Ts.contains j⟩
theorem QhA {listed : Array Bool} {Ts : List Nat} (hs : listed.size = ops.size) (h : ∀ j, j < ops.size → (listed.getD j false = false ↔ j ∈ Ts)) : listed = zn ops.size Ts := by
 apply Array.ext
 ·simp [zn, hs]
 ·intro j h1 h2
  have := h j (by omega)
  rw [Array.getD_eq_getD_getElem?, Array.getElem?_eq_getElem h1] at this
  simp only [Option.getD_some] at this
  simp only [zn, List.getElem_toArray, List.getElem_map, List.getElem_range]
  cases hb : listed[j] with
  | false => rw [hb] at this; simp [this.1 rfl]
  | true => rw [hb] at this; simp at this; simp [this]
variable {E : Env} {n : Nat} {listed : Array Bool}
theorem QjQ (hr : Region.ready .any ops listed = []) (h : EJ c (Q .normal) E R L) : TJ c ops Q n listed E R L :=
 fun fuel a w _ hf hs => wpAny_done (Q := nrm Q) hr (h a w hf hs) fuel
def AJ (c : Cx) (ops : Array Oper) (Q : Exit → Act → World → Prop) (n : Nat) (listed : Array Bool) (E : Env) (R : Hp) (L : List Asn) : List Nat → Prop
 | [] => True
 | i :: is => (∃ o, ops[i]? = some o ∧ RJ c ops (Exit.then (fun a w => ∀ fuel, n ≤ fuel → wpAny c.P .any ops (nrm Q) fuel (listed.setIfInBounds i true) a w) (fun _ _ _ => False)) [o] E R L) ∧ AJ c ops Q n listed E R L is
theorem AJ.spec : ∀ {is : List Nat}, AJ c ops Q n listed E R L is → ∀ i ∈ is, ∃ o, ops[i]? = some o ∧ RJ c ops (Exit.then (fun a w => ∀ fuel, n ≤ fuel → wpAny c.P .any ops (nrm Q) fuel (listed.setIfInBounds i true) a w) (fun _ _ _ => False)) [o] E R L
 | [], _, i, h => by cases h
 | j :: is, h, i, hi => by
  rcases List.mem_cons.1 hi with rfl | hi
  ·exact h.1
  ·exact AJ.spec h.2 i hi
theorem jS {P : Program} {o : Oper} {a : Act} {w : World} {K K' : Act → World → Prop} {Q' : Exit → Act → World → Prop} (h : wpList P ops (Exit.then K (fun _ _ _ => False)) [o] a w) (hk : ∀ a' w', K a' w' → K' a' w') :
  if Region.wanted o (yielded ops a.tmps) then o.wp P a w K' Q' else K' (a.put o.dst undef) w := by
 unfold wpList at h
 split at h
 ·rename_i hw
  rw [if_pos hw]
  rcases h with h | h
  ·unfold Oper.wp at *
   unfold Oper.upon at *
   split <;> simp_all [wpList, Exit.then]
   ·refine Calls.mono h ?_
    rintro e w' he
    split <;> simp_all
    ·exact absurd he (by rintro ⟨_, _, h⟩; exact h)
   ·exact Rows.mono h fun v w' h => hk _ _ h
  ·obtain ⟨_, _, _, hh⟩ := h; exact hh.elim
 ·rename_i hw
  rw [if_neg hw]
  exact hk _ _ h
theorem zZ {rs : List Nat} (hr : Region.ready .any ops listed = rs) (hne : rs ≠ []) (h : AJ c ops Q n listed E R L rs) : TJ c ops Q (n + 1) listed E R L := by
 intro fuel a w hn hf hs
 obtain ⟨fuel, rfl⟩ : ∃ k, fuel = k + 1 := ⟨fuel - 1, by omega⟩
 refine wpAny_all hr hne fun i hi => ?_
 obtain ⟨o, ho, hj⟩ := AJ.spec h i hi
 have := jS (Q' := nrm Q) (hj a w hf hs) (K' := wpAny c.P .any ops (nrm Q) fuel (listed.setIfInBounds i true)) (fun a' w' hk => hk fuel (by omega))
 unfold wpOp
 rw [ho]
 simp only
 split
 ·rename_i hw; rw [if_pos hw] at this; exact .inl this
 ·rename_i hw; rw [if_neg hw] at this; exact this
theorem Qmy {i : Nat} (h : TJ c ops Q n (listed.setIfInBounds i true) E R L) : EJ c (fun a w => ∀ fuel, n ≤ fuel → wpAny c.P .any ops (nrm Q) fuel (listed.setIfInBounds i true) a w) E R L :=
 fun a w hf hs fuel hn => h fuel a w hn hf hs
def Qgo : Op → Bool
 | .move _ | .assign _ | .pick .. | .nilCheck _ | .fieldAddr .. | .indexAddr .. | .binOp .. | .unOp .. | .extract .. | .build .. => true
 | _ => false
def yd : Result Next → Prop
 | .ok (.value _) _ => True
 | .ok _ _ => False
 | _ => True
theorem Qgs {P : Program} {w : World} (s : Sem Value) : yd ((do pure (Next.value (← s)) : Sem Next).run P w) := by
 rw [Sem.run_bind]
 cases s.run P w <;> simp [Result.andThen, yd]
theorem QiC {P : Program} {o : Oper} (h : Qgo o.op = true) (ρ : Operand → Value) (w : World) : yd ((execOp ρ o).run P w) := by
 obtain ⟨d, op, ty, p, af, g⟩ := o
 cases op <;> first | (simp [Qgo] at h; done) | exact Qgs _ | (simp [execOp, yd]; done) | skip
 all_goals (simp only [execOp])
 ·rw [Sem.run_bind]; cases (asBool _).run P w <;> simp [yd, Result.andThen]
 ·split
  ·exact True.intro
  ·exact True.intro
  ·exact True.intro
  ·split
   ·exact True.intro
   ·simp only [Sem.run_bind]
    cases h1 : program.run P w with
    | ok x w' =>
     simp only [Result.andThen]
     cases h2 : (nilAhead _ _ _ _).run P w' with
     | ok y w2 => simp only [Result.andThen]; split <;> simp [yd]
     | halt y w2 => simp [Result.andThen, yd]
    | halt x w' => simp [Result.andThen, yd]
   ·simp [yd]
  ·simp [yd]
theorem Qfg {i d : Nat} {o : Oper} {v : Value} (ho : ops[i]? = some o) (hd : o.dst = some d) (hb : Nat.blt d c.n = true) (hs : Region.noSelect ops = true) (hfr : Region.free .any ops listed i = true) (hr : (Region.ready .any ops listed).contains i = true)
  (hw : Wn c ops E o true) (hpu : Qgo o.op = true) (y : ∀ σ, Yld ⟨c.P, c.n, σ⟩ E Hp.emp [] o v) (h : TJ c ops Q n (listed.setIfInBounds i true) ((d, v) :: E) R L) : TJ c ops Q (n + 1) listed E R L := by
 intro fuel a w hn hf hsat
 obtain ⟨fuel, rfl⟩ : ∃ k, fuel = k + 1 := ⟨fuel - 1, by omega⟩
 refine wpAny_take ho hs hfr hr (fun c a w h => h) (.inl ⟨hw a hf, fun w => ?_⟩) (h fuel _ w (by omega) (by rw [hd]; exact hf.put hb v) hsat)
 have := y w a w ⟨hf.size, hf.dfs, hf.get⟩ ⟨rfl, rfl, rfl, fun _ _ h => (by cases h), Hp.emp, fun _ _ h => (by cases h), fun _ => .inl rfl, trivial⟩
 have hv := QiC (P := c.P) hpu a.eval w
 simp only at this
 revert this hv
 cases hr : (execOp a.eval o).run c.P w with
 | ok x w' => cases x <;> simp_all [yd, Oper.quietUpon]
 | halt x w' => simp_all [Oper.quietUpon]
theorem QaB {Qx : Exit → Act → World → Prop} {i : Nat} (h : TJ c ops Q n (listed.setIfInBounds i true) E R L) :
  RJ c ops (Exit.then (fun a w => ∀ fuel, n ≤ fuel → wpAny c.P .any ops (nrm Q) fuel (listed.setIfInBounds i true) a w) Qx) [] E R L := Qe (Qmy h)
def XK (c : Cx) (ops : Array Oper) (R : Hp) (L : List Asn) (K : Env → Hp → List Asn → Prop) (is : List Nat) (a : Act) (w : World) : Prop :=
 ∃ E' R' G', R.le R' ∧ Fr c.n E' a ∧ Sat c.σ R' (L ++ G') w ∧ XJ c ops L K is E' R' G'
theorem QH {R1 : Hp} {Qx : Exit → Act → World → Prop} {K : Env → Hp → List Asn → Prop} {is : List Nat} {M G' : List Asn} (hR : R.le R1) (hS : Sub M (L ++ G')) (h : XJ c ops L K is E R1 G') : RJ c ops (Exit.then (XK c ops R L K is) Qx) [] E R1 M :=
 Qe fun a w hf hs => ⟨E, R1, G', hR, hf, hs.sub hS, h⟩
theorem Qdw {P : Program} {o : Oper} {a : Act} {K : Act → World → Prop} {Q' : Exit → Act → World → Prop} {r : Result Next} (h : o.upon P a K (fun _ _ _ => False) r) (hd : ∀ a' w', K a' w' → a'.defers = []) :
  o.upon P a (fun a' w' => (∃ u, a' = a.put o.dst u) ∧ K a' w') Q' r := by
 unfold Oper.upon at *
 split <;> simp_all
 ·exact ⟨_, rfl⟩
 ·exact ⟨_, rfl⟩
 ·have := hd _ _ h; cases hdd : o.dst <;> simp [Act.put, hdd] at this
 ·refine Calls.mono h ?_
  rintro e w' he
  split <;> simp_all
  ·exact ⟨_, rfl⟩
  ·exact absurd he (by rintro ⟨_, _, h⟩; exact h)
 ·exact Rows.mono h fun v w' h => ⟨⟨v, rfl⟩, h⟩
theorem QG {K : Env → Hp → List Asn → Prop} {G : List Asn} {i : Nat} {is : List Nat} {o : Oper} (ho : ops[i]? = some o)
  (h : RJ c ops (Exit.then (XK c ops R L K is) (fun _ _ _ => False)) [o] E R (L ++ G)) : XJ c ops L K (i :: is) E R G :=
 ⟨o, ho, fun a w hf hs => by
  have := jS (Q' := fun _ _ _ => False) (h a w hf hs) (K' := XK c ops R L K is) (fun _ _ h => h)
  split
  ·rename_i hw
   rw [if_pos hw] at this
   refine Oper.wp_mono ?_ (Qdw this fun a' w' ⟨E', R', G', _, h1, _⟩ => h1.dfs)
   rintro a' w' ⟨⟨u, rfl⟩, E', R', G', hle, h1, h2, h3⟩
   exact ⟨u, E', R', G', hle, rfl, h1, h2, h3⟩
  ·rename_i hw
   rw [if_neg hw] at this
   exact this⟩
end
section
variable {c : Cx} {l : List Oper} {Q : Exit → Act → World → Prop} {R : Hp} {L : List Asn} {E : Env}
theorem QkZ {id : Nat} (Fs Cs Ts : List Nat) (G0 : List Asn) {L0 : List Asn} (hL : Sub L0 (L ++ G0)) (hm : c.P.follows .mixedOrders = true) (hB : zB l.toArray Fs Cs Ts = true)
  (h : FJ c l.toArray R L (fun E' => XJ c l.toArray L (fun E R G => TJ c l.toArray Q Ts.length (zn l.length Ts) E R (L ++ G)) Cs E' R G0) Fs E) : CJ c (.region id l.toArray true) Q E R L0 :=
 QfQ (KK := fun E R G => TJ c l.toArray Q Ts.length (zn l.length Ts) E R (L ++ G)) Fs Cs Ts G0 hL hm hB (fun E R G h fuel listed a w hs hc hl hn hf hsat => by
  have e := QhA hs hl
  subst e
  exact zq _ _ _ _ _ (by have := h fuel a w hn hf hsat; simpa using this)) h
end
def bsl (sz : Nat) : Nat → List (Nat × Value) → Option (List Value)
 | _, [] => some []
 | k, (i, v) :: l => cond (Nat.beq i k && Nat.beq v.cells.size sz) ((bsl sz (k + 1) l).map fun r => v.cells.toList ++ r) none
theorem QcC {sz : Nat} : ∀ {l : List (Nat × Value)} {k : Nat} {r : List Value}, bsl sz k l = some r → r.length = l.length * sz
 | [], k, r, h => by simp only [bsl, Option.some.injEq] at h; subst h; simp
 | (i, v) :: l, k, r, h => by
  simp only [bsl] at h
  cases hb : (Nat.beq i k && Nat.beq v.cells.size sz) with
  | false => rw [hb] at h; cases h
  | true =>
   rw [hb] at h
   simp only [cond_true, Option.map_eq_some_iff] at h
   obtain ⟨r', h1, rfl⟩ := h
   simp only [Bool.and_eq_true] at hb
   have := Nat.eq_of_beq_eq_true hb.2
   simp only [List.length_append, List.length_cons, Array.length_toList, QcC h1, this, Nat.add_mul]; omega
theorem Qej {sz : Nat} : ∀ (l : List (Nat × Value)) (k : Nat) (r : List Value) (cs : List Value), bsl sz k l = some r → (k + l.length) * sz ≤ cs.length →
  Instr.fill (fun i => some (i * sz, sz)) cs.toArray l = some (cs.take (k * sz) ++ r ++ cs.drop ((k + l.length) * sz)).toArray
 | [], k, r, cs, h, _ => by simp only [bsl, Option.some.injEq] at h; subst h; simp [Instr.fill]
 | (i, v) :: l, k, r, cs, h, hl => by
  simp only [bsl] at h
  cases hb : (Nat.beq i k && Nat.beq v.cells.size sz) with
  | false => rw [hb] at h; cases h
  | true =>
   rw [hb] at h
   simp only [cond_true, Option.map_eq_some_iff] at h
   obtain ⟨r', h1, rfl⟩ := h
   simp only [Bool.and_eq_true] at hb
   obtain rfl := Nat.eq_of_beq_eq_true hb.1
   have hsz := Nat.eq_of_beq_eq_true hb.2
   have hm : (i + (l.length + 1)) * sz = i * sz + (l.length * sz + sz) := by rw [Nat.add_mul, Nat.add_mul, Nat.one_mul]
   have hm2 : (i + 1 + l.length) * sz = i * sz + (l.length * sz + sz) := by rw [Nat.add_mul, Nat.add_mul, Nat.one_mul]; omega
   have hm3 : (i + 1) * sz = i * sz + sz := by rw [Nat.add_mul, Nat.one_mul]
   simp only [List.length_cons] at hl
   rw [hm] at hl
   simp only [Instr.fill]
   rw [if_neg (by simp [hsz]; omega)]
   have hf := Qc7 v.cells.toList 0 (i * sz) cs (by simp [hsz]; omega)
   simp only [Nat.add_zero] at hf
   have ez : v.cells.zipIdx = (v.cells.toList.zipIdx 0).toArray := by apply Array.ext'; simp
   rw [ez]
   simp only [List.foldl_toArray']
   rw [hf]
   have hcl : v.cells.toList.length = sz := by simp [hsz]
   rw [Qej l (i + 1) r' _ h1 (by simp only [List.length_append, List.length_take, List.length_drop, hcl]; rw [hm2]; omega)]
   congr 2
   rw [hm2, hm3]
   rw [List.take_append_of_le_length (by simp only [List.length_append, List.length_take, hcl]; omega), List.take_of_length_le (by simp only [List.length_append, List.length_take, hcl]; omega)]
   rw [List.drop_append, List.drop_of_length_le (by simp only [List.length_append, List.length_take, hcl]; omega)]
   simp only [List.length_append, List.length_take, hcl, List.nil_append, List.drop_drop, List.length_cons, hm, List.append_assoc]
   congr 4
   omega
section
variable {c : Cx} {ops : Array Oper} {Q : Exit → Act → World → Prop} {E : Env} {R : Hp} {L M : List Asn} {rest : List Oper} {ty : TypeId} {p : String} {af : Array Edge} {g : Option (Nat × Bool)}
theorem QA {d : Nat} {t e : TypeId} {len sz : Nat} {parts : List (Nat × Operand)} {vs : List (Nat × Value)} {z : Value} {xs : List Value} (hw : Wn c ops E ⟨some d, .buildSlice t len ⟨parts⟩, ty, p, af, g⟩ true) (hn : Nat.blt d c.n = true)
  (hT : c.P.underlying t = some (.slice e)) (hS : ∀ w, (sizeOf e).run c.P w = .ok sz w) (hZ : ∀ w, (zeroValue e).run c.P w = .ok z w) (hv : evp E parts = some vs) (hp : bsl sz 0 vs = some xs) (hlen : vs.length = len) (hk : len * sz ≤ 16777216) (hm : len ≤ maxLen)
  (h : ∀ b, RJ c ops Q rest ((d, .slice (some ⟨b, 0, none⟩) len len) :: E) R (slc e sz (.slice (some ⟨b, 0, none⟩) len len) len xs :: L)) : RJ c ops Q (⟨some d, .buildSlice t len ⟨parts⟩, ty, p, af, g⟩ :: rest) E R L := by
 refine Qae (v := fun b => .slice (some ⟨b, 0, none⟩) len len) (L' := fun b => slc e sz (.slice (some ⟨b, 0, none⟩) len len) len xs :: L) hw rfl hn (fun a w hf hs => ⟨w.heap.size, w.alloc (.cells ⟨xs⟩ e (0, 0)), ?_, ?_⟩) h
 ·have hv' := hf.evp hv
  have e0 : (Array.mk parts).map (fun x => (x.1, a.eval x.2)) = ⟨vs⟩ := by rw [← hv']; simp
  have hxl := QcC hp
  rw [hlen] at hxl
  have hfill : ∀ zz : Array Value, Instr.fill (fun i => some (i * sz, sz)) ((Array.range (len * sz)).map (zz[· % zz.size]!)) vs = some ⟨xs⟩ := by
   intro zz
   have := Qej vs 0 xs ((List.range (len * sz)).map (fun i => zz[i % zz.size]!)) hp (by simp [hlen])
   have e2 : ((Array.range (len * sz)).map (zz[· % zz.size]!)) = ((List.range (len * sz)).map (fun i => zz[i % zz.size]!)).toArray := by
    apply Array.ext'; simp
   rw [e2, this]
   simp [hlen]
  have hk' : ¬ (16777216 < len * sz) := by omega
  simp only [execOp]
  rw [show (Array.map (fun x => match x with | (i, x) => (i, a.eval x)) (Array.mk parts)) = (Array.mk parts).map (fun x => (x.1, a.eval x.2)) from rfl, e0]
  by_cases h0 : len * sz = 0
  ·simp [Instr.buildSlice, run_underlying hT, hS, hk', h0]
   have := hfill #[]
   simp only [h0] at this
   simp at this
   simp [this, newRow]
  ·simp [Instr.buildSlice, run_underlying hT, hS, hk', h0, hZ]
   have := hfill z.cells
   rw [this]
   simp [newRow]
 ·refine Sat.turn (fun h hh => ?_) (hs.alloc (.cells ⟨xs⟩ e (0, 0)))
  have hxl := QcC hp
  rw [hlen] at hxl
  exact ⟨hxl, .inr ⟨w.heap.size, len, (0, 0), [], [], rfl, by simpa using hh, fun o _ h => by simp at h, Nat.le_refl _, hm, by simp [hxl]⟩⟩
theorem QaA {x : Tmp} {t et : TypeId} {b off : Nat} {l : List Value} {v : Value} (hT : One c.P t) (e : lk E x = some (.pointer (some ⟨b, off, none⟩))) (f : Find (blk b l et) L M) (h : nth l off = some v) : RV c E R L (.cell x t) v :=
 fun a w hf hs => by
  have h1 := hf.get x _ e
  have h2 : w.cell? ⟨b, off, none⟩ = some v := by rw [(hs.find f).blk_cell]; exact h
  simp [Qcm, h1, asAddr, loadVar, hT.1, load, Sem.run, h2]
theorem QP {x : Tmp} {t et : TypeId} {b off n : Nat} {l vs : List Value} (hT : qp c.P t n) (e : lk E x = some (.pointer (some ⟨b, off, none⟩))) (f : Find (blk b l et) L M) (h : (l.drop off).take n = vs) (hn : vs.length = n) : RV c E R L (.cell x t) (.agg ⟨vs⟩) :=
 fun a w hf hs => by
  have h1 := hf.get x _ e
  have h2 := Qab (P := c.P) (w := w) (b := b) vs off 0 #[] (fun j v hj => by
   rw [Nat.add_zero, (hs.find f).blk_cell, Zw]
   subst h
   rw [List.getElem?_take] at hj
   split at hj
   ·rwa [List.getElem?_drop] at hj
   ·cases hj)
  simp [Qcm, h1, asAddr, loadVar, hT.1, hT.2, loadCells, ← hn, h2]
def FrozenS (R : Hp) (v : Value) (n : Nat) (xs : List Value) : Prop := (v = .slice none 0 0 ∧ n = 0) ∨ ∃ b off cap, v = .slice (some ⟨b, off, none⟩) n cap ∧ n ≤ cap ∧ cap ≤ maxLen ∧ ∀ (j : Nat) (u : Value), xs[j]? = some u → Hp.cell R ⟨b, off + j, none⟩ = some u
theorem zd {R' : Hp} {e : TypeId} {sz n : Nat} {v : Value} {xs : List Value} (h : ∃ h : Hp, h.le R' ∧ slc e sz v n xs h) : FrozenS R' v n xs ∧ xs.length = n * sz := by
 obtain ⟨h, hle, hl, hs⟩ := h
 refine ⟨?_, hl⟩
 rcases hs with ⟨h1, h2⟩ | ⟨g, cap, fz, pre, post, rfl, h2, _, h3, h4, _⟩
 ·exact .inl ⟨h1, h2⟩
 ·refine .inr ⟨g, pre.length, cap, rfl, h3, h4, fun j u hj => ?_⟩
  have hb := hle _ _ h2
  have hlt := (List.getElem?_eq_some_iff.1 hj).1
  simp only [Hp.cell, hb]
  simp
  rw [List.getElem?_append_right (by omega), Nat.add_sub_cancel_left, List.getElem?_append_left hlt, hj]
theorem QhX {x : Code} {e : TypeId} {sz n : Nat} {v : Value} {xs : List Value} (f : Find (slc e sz v n xs) L M) (h : ∀ R', R.le R' → FrozenS R' v n xs → xs.length = n * sz → CJ c x Q E R' M) : CJ c x Q E R L := fun a w hf hs => by
 obtain ⟨R', h1, h2, h3⟩ := (hs.find f).freeze
 exact h R' h1 (zd h2).1 (zd h2).2 a w hf h3
theorem QhV {q : Act → World → Prop} {e : TypeId} {sz n : Nat} {v : Value} {xs : List Value} (f : Find (slc e sz v n xs) L M) (h : ∀ R', R.le R' → FrozenS R' v n xs → xs.length = n * sz → EJ c q E R' M) : EJ c q E R L := fun a w hf hs => by
 obtain ⟨R', h1, h2, h3⟩ := (hs.find f).freeze
 exact h R' h1 (zd h2).1 (zd h2).2 a w hf h3
theorem Yn {l : List Oper} {e : TypeId} {sz n : Nat} {v : Value} {xs : List Value} (f : Find (slc e sz v n xs) L M) (h : ∀ R', R.le R' → FrozenS R' v n xs → xs.length = n * sz → RJ c ops Q l E R' M) : RJ c ops Q l E R L := fun a w hf hs => by
 obtain ⟨R', h1, h2, h3⟩ := (hs.find f).freeze
 exact h R' h1 (zd h2).1 (zd h2).2 a w hf h3
theorem YF {d : Option Tmp} {fn : Fn} {first cap : List Operand} {fs cs : List Value} (h1 : evs E first = some fs) (h2 : evs E cap = some cs) : Yld c E R L ⟨d, .makeFunc fn ⟨first⟩ ⟨cap⟩, ty, p, af, g⟩ (.func fn ⟨fs⟩ ⟨cs⟩) :=
 fun a w hf _ => by
  have e1 : (Array.mk first).map a.eval = ⟨fs⟩ := by rw [← hf.evs h1]; simp
  have e2 : (Array.mk cap).map a.eval = ⟨cs⟩ := by rw [← hf.evs h2]; simp
  simp [execOp, Instr.makeFunc, e1, e2, Oper.quietUpon]
theorem QcN {a : Act} {w : World} {d : Option Tmp} {f : FuncId} {x : Operand} {xs : List Operand} {ts : Array TypeId} {vs cs : List Value} (hx : a.eval x = .func (.func f) ⟨[]⟩ ⟨cs⟩) (hc : ∀ args w, (callFunc f args).run c.P w = .ok (.enter f args) w)
  (hv : xs.map a.eval = vs) : (execOp a.eval ⟨d, .call { callee := .value x, args := ⟨xs⟩, argTypes := ts }, ty, p, af, g⟩).run c.P w = .ok (.enter f ⟨vs ++ cs⟩) w := by
 have e : (Array.mk xs).map a.eval = ⟨vs⟩ := by rw [← hv]; simp
 have e2 : (Array.mk vs) ++ (Array.mk cs) = ⟨vs ++ cs⟩ := by simp
 simp [execOp, resolve, hx, Deferred.ofValue, invoke, e, hc, e2]
theorem Qe9 {d : Option Tmp} {f : FuncId} {x : Operand} {xs : List Operand} {ts : Array TypeId} {vs cs : List Value} {pre F : List Asn} {v : Value} (hx : ev E x = some (.func (.func f) ⟨[]⟩ ⟨cs⟩)) (hc : ∀ args w, (callFunc f args).run c.P w = .ok (.enter f args) w)
  (hv : evs E xs = some vs) (ht : QTri c.P f (vs ++ cs) R pre v) (hs : Split L pre F) : Yld c E R L ⟨d, .call { callee := .value x, args := ⟨xs⟩, argTypes := ts }, ty, p, af, g⟩ v :=
 fun a w hf hw => by
  rw [QcN (hf.ev hx) hc (hf.evs hv)]
  exact ⟨rfl, (ht _ _ _ (hs.sat hw)).mono fun e w' ⟨h1, h2⟩ => ⟨h1, hs.satBack h2⟩⟩
theorem Qis {d : Nat} {f : FuncId} {x : Operand} {xs : List Operand} {ts : Array TypeId} {vs cs : List Value} {pre F : List Asn} {post : Value → Hp → List Asn → Prop} {pan : List PanicEntry → Hp → List Asn → Prop}
  (hw : Wn c ops E ⟨some d, .call { callee := .value x, args := ⟨xs⟩, argTypes := ts }, ty, p, af, g⟩ true) (hn : Nat.blt d c.n = true) (hx : ev E x = some (.func (.func f) ⟨[]⟩ ⟨cs⟩)) (hc : ∀ args w, (callFunc f args).run c.P w = .ok (.enter f args) w)
  (hv : evs E xs = some vs) (ht : Tri c.P f (vs ++ cs) R pre post pan) (hs : Split L pre F)
  (hp : ∀ ch R' L', R.le R' → pan ch R' L' → EJ c (Q (.panic ch)) E R' (L' ++ F))
  (h : ∀ v R' L', R.le R' → post v R' L' → RJ c ops Q rest ((d, v) :: E) R' (L' ++ F)) :
  RJ c ops Q (⟨some d, .call { callee := .value x, args := ⟨xs⟩, argTypes := ts }, ty, p, af, g⟩ :: rest) E R L := by
 intro a w hf hsat
 unfold wpList
 rw [if_pos (hw a hf)]
 refine .inl ?_
 unfold Oper.wp
 rw [QcN (hf.ev hx) hc (hf.evs hv)]
 simp only [Oper.upon]
 refine (ht _ _ _ (hs.sat hsat)).mono fun e w' ⟨R', L', hR, hw', hpost⟩ => ?_
 cases e with
 | returned v => exact h v R' L' hR hpost _ _ (hf.put hn v) hw'
 | panicked ch => exact hp ch R' L' hR hpost _ _ hf hw'
 | outgrown => exact hpost.elim
end
def QaH (ops : Array Oper) (Fs Cs Ts : List Nat) : Bool :=
 Qbr ops && ((List.range ops.size).all fun i => Fs.contains i || Cs.contains i || Ts.contains i) && Fs.Nodup && Cs.Nodup && Ts.Nodup &&
 (Fs.all fun i => !XR ops i i) && (Fs.all fun i => Nat.blt i ops.size && !Cs.contains i && !Ts.contains i) && (Cs.all fun i => Nat.blt i ops.size && !Ts.contains i) && (Ts.all fun i => Nat.blt i ops.size) &&
 yV ops Fs && (Fs.all fun i => qz ops i) && (Cs.all fun i => qz ops i) &&
 (Fs.all fun i => Cs.all fun k => !XR ops i k && !Zb ops i k && !Zb ops k i && (YR ops ops.size k i || !XR ops k i)) &&
 (Fs.all fun i => Ts.all fun k => YR ops ops.size k i) && (Cs.all fun i => Ts.all fun k => YR ops ops.size k i)
def Qb1 (ops : Array Oper) (rem : List Nat) (i : Nat) : Bool := rem.all fun j => !YR ops ops.size i j
def PE (PX : List PanicEntry → World → Prop) : Exit → Act → World → Prop := fun e _ w => ∃ ch, e = .panic ch ∧ PX ch w
section
variable {c : Cx} {ops : Array Oper} {Q : Exit → Act → World → Prop} {R : Hp} {L : List Asn}
def YJ (c : Cx) (ops : Array Oper) (L : List Asn) (PX : List PanicEntry → World → Prop) (X : Env → Hp → List Asn → Prop) (i : Nat) (E : Env) (R : Hp) (G : List Asn) : Prop :=
 ∃ o, ops[i]? = some o ∧ ∀ a w, Fr c.n E a → Sat c.σ R (L ++ G) w →
   if Region.wanted o (yielded ops a.tmps) then o.wp c.P a w (fun a' w' => ∃ u E' R' G', R.le R' ∧ a' = a.put o.dst u ∧ Fr c.n E' a' ∧ Sat c.σ R' (L ++ G') w' ∧ X E' R' G') (PE PX)
   else ∃ E' R' G', R.le R' ∧ Fr c.n E' (a.put o.dst undef) ∧ Sat c.σ R' (L ++ G') w ∧ X E' R' G'
def XS (c : Cx) (ops : Array Oper) (L : List Asn) (K : Env → Hp → List Asn → Prop) (PX : List PanicEntry → World → Prop) : Nat → List Nat → Env → Hp → List Asn → Prop
 | 0, _, E, R, G => K E R G
 | n + 1, rem, E, R, G => ∀ i ∈ rem, Qb1 ops rem i = true → YJ c ops L PX (XS c ops L K PX n (rem.erase i)) i E R G
theorem QaX : ∀ (p : List (Nat × Value)) (a : Act), (XN ops a p).defers = a.defers
 | [], _ => rfl
 | (i, v) :: p, a => by
  have := QaX p a
  simp only [XN]
  cases h : ((ops[i]?).bind (·.dst)) <;> simp [Act.put, this]
theorem QcH : ∀ (p : List (Nat × Value)) (a : Act), (XN ops a p).tmps.size = a.tmps.size
 | [], _ => rfl
 | (i, v) :: p, a => by
  have := QcH p a
  simp only [XN]
  cases h : ((ops[i]?).bind (·.dst)) <;> simp [Act.put, this]
theorem Fr.bare {n : Nat} {a : Act} (h1 : a.tmps.size = n) (h2 : a.defers = []) : Fr n [] a := ⟨h1, h2, fun t v e => by simp [lk] at e⟩
theorem Qf2 {PX : List PanicEntry → World → Prop} {o : Oper} {V a : Act} {K K' : Act → World → Prop} {r : Result Next} (h : o.upon c.P V K' (PE PX) r) (hk : ∀ u w', K' (V.put o.dst u) w' → K (a.put o.dst u) w')
  (hd : ∀ (q : Deferred) w', ¬ K' (({ V with defers := q :: V.defers } : Act).put o.dst undef) w') (hp : ∀ ch w', PX ch w' → Q (.panic ch) a w') : o.upon c.P a K Q r := by
 cases r with
 | ok n w' =>
  cases n <;> simp only [Oper.upon] at h ⊢ <;> first | exact hk _ _ h | exact (hd _ _ h).elim | exact h.elim | skip
  case enter f args =>
   refine h.mono fun e w'' hh => ?_
   cases e with
   | returned v => exact hk _ _ hh
   | panicked ch => obtain ⟨ch', e, hx⟩ := hh; cases e; exact hp _ _ hx
   | outgrown => obtain ⟨_, _, ch', e, _⟩ := hh; cases e
  case row row args => exact h.mono fun v w'' hh => hk _ _ hh
 | halt x w' =>
  cases x <;> simp only [Oper.upon] at h ⊢
  obtain ⟨ch', e, hx⟩ := h; cases e; exact hp _ _ hx
def QmU (c : Cx) (ops : Array Oper) (Q : Exit → Act → World → Prop) (R : Hp) (L : List Asn) (PX : List PanicEntry → World → Prop) (Fs Cs Ts : List Nat) (fuel : Nat) (listed : Array Bool) (a : Act) (w : World) : Prop :=
 listed.size = ops.size ∧ Closed1 ops listed ∧
 ∃ (pend : List (Nat × Value)) (cs : List Nat) (E : Env) (R1 : Hp) (G : List Asn), R.le R1 ∧ (∀ x ∈ pend, x.1 ∈ Fs) ∧ (pend.map (·.1)).Nodup ∧ ((∀ j ∈ cs, j ∈ Cs) ∧ cs.Nodup) ∧
   XS c ops L (fun E R G => TK c ops Q R Ts (L ++ G) E) PX cs.length cs E R1 G ∧ Fr c.n E (XN ops a pend) ∧ Sat c.σ R1 (L ++ G) w ∧ (∀ x ∈ pend, QK c ops R L x (XN ops a pend)) ∧
   (∀ j, j < ops.size → (listed.getD j false = false ↔ j ∈ pend.map (·.1) ∨ j ∈ cs ∨ j ∈ Ts)) ∧ pend.length + cs.length + Ts.length ≤ fuel
theorem QiM {PX : List PanicEntry → World → Prop} (hpan : ∀ ch (a : Act) w, Fr c.n [] a → PX ch w → Q (.panic ch) a w) {Fs Cs Ts : List Nat} (hB : QaH ops Fs Cs Ts = true) : ∀ (fuel : Nat) (listed : Array Bool) (a : Act) (w : World), QmU c ops Q R L PX Fs Cs Ts fuel listed a w → wpAny c.P .any ops Q fuel listed a w := by
 simp only [QaH, Bool.and_eq_true, List.all_eq_true, Bool.not_eq_true', Bool.or_eq_true, decide_eq_true_eq] at hB
 obtain ⟨⟨⟨⟨⟨⟨⟨⟨⟨⟨⟨⟨⟨⟨hlow, hcover⟩, hFn⟩, hCn⟩, hTn⟩, hself⟩, hF⟩, hC⟩, hT⟩, hpair⟩, hFs⟩, hCs⟩, hFC⟩, hFT⟩, hCT⟩ := hB
 have hFlt : ∀ i ∈ Fs, i < ops.size := fun i hi => Nat.lt_of_lt_of_le (Nat.lt_succ_self _) (Nat.le_of_ble_eq_true (hF i hi).1.1)
 have hClt : ∀ i ∈ Cs, i < ops.size := fun i hi => Nat.lt_of_lt_of_le (Nat.lt_succ_self _) (Nat.le_of_ble_eq_true (hC i hi).1)
 have hTlt : ∀ i ∈ Ts, i < ops.size := fun i hi => Nat.lt_of_lt_of_le (Nat.lt_succ_self _) (Nat.le_of_ble_eq_true (hT i hi))
 intro fuel
 induction fuel with
 | zero =>
  rintro listed a w ⟨hs, hc, pend, cs, E, R1, G, hR1, hp, hpn, _, hX, hE, hw, hq, hl, hf⟩
  have e1 := List.eq_nil_of_length_eq_zero (l := pend) (by omega)
  have e2 := List.eq_nil_of_length_eq_zero (l := cs) (by omega)
  subst e1 e2
  exact hX 0 listed a w hs hc (fun j hj => (hl j hj).trans (by simp)) (by simpa using hf) hE hw
 | succ fuel ih =>
  rintro listed a w ⟨hs, hc, pend, cs, E, R1, G, hR1, hp, hpn, ⟨hcC, hcn⟩, hX, hE, hw, hq, hl, hf⟩
  by_cases hall : pend = [] ∧ cs = []
  ·obtain ⟨rfl, rfl⟩ := hall
   exact hX (fuel + 1) listed a w hs hc (fun j hj => (hl j hj).trans (by simp)) (by simpa using hf) hE hw
  have hpu : ∀ y ∈ pend, listed.getD y.1 false = false := fun y hy => (hl _ (hFlt _ (hp y hy))).2 (.inl (List.mem_map.2 ⟨y, hy, rfl⟩))
  have hcsu : ∀ j ∈ cs, listed.getD j false = false := fun j h => (hl _ (hClt _ (hcC _ h))).2 (.inr (.inl h))
  refine ⟨fun hr => ?_, fun i hi => ?_⟩
  ·exfalso
   have : ∃ j, j < ops.size ∧ listed.getD j false = false := by
    cases hpe : pend with
    | cons y p => exact ⟨y.1, hFlt _ (hp y (by rw [hpe]; simp)), hpu y (by rw [hpe]; simp)⟩
    | nil => cases hce : cs with
     | cons k p => exact ⟨k, hClt _ (hcC k (by rw [hce]; simp)), hcsu k (by rw [hce]; simp)⟩
     | nil => exact absurd ⟨hpe, hce⟩ hall
   obtain ⟨j, hj, hu⟩ := this
   obtain ⟨k, hk⟩ := ye hlow hs j hj hu
   rw [hr] at hk; cases hk
  ·obtain ⟨h0, o, ho, hdeps⟩ := mem_ready.1 hi
   have hilt : i < ops.size := (Array.getElem?_eq_some_iff.1 ho).1
   have hu : listed.getD i false = false := by
    rw [Array.getD_eq_getD_getElem?] at h0 ⊢
    rw [Array.getElem?_eq_getElem (by omega)] at h0 ⊢
    simpa using h0
   have hanc : ∀ j, YR ops ops.size i j = true → listed.getD j false = true := fun j hj => zb hc _ i j hj fun o' ho' => by rw [ho] at ho'; cases ho'; exact hdeps
   have hs' : (listed.setIfInBounds i true).size = ops.size := by simpa using hs
   have hc' : Closed1 ops (listed.setIfInBounds i true) := hc.set hs hi
   have hgd : ∀ j, (listed.setIfInBounds i true).getD j false = if j = i then true else listed.getD j false := fun j => zk (by omega)
   ·skip
    by_cases hip : i ∈ pend.map (·.1)
    · -- one that only looks
     obtain ⟨x, hx, rfl⟩ := List.mem_map.1 hip
     obtain ⟨p1, p2, rfl⟩ := List.append_of_mem hx
     have hxF := hp x hx
     have hnot : ∀ y ∈ p1 ++ p2, y.1 ≠ x.1 := by
      intro y hy he
      simp only [List.map_append, List.map_cons] at hpn
      have hn := List.nodup_append.1 hpn
      rcases List.mem_append.1 hy with h | h
      ·exact hn.2.2 y.1 (List.mem_map.2 ⟨y, h, rfl⟩) x.1 (by simp) he
      ·have := (List.nodup_cons.1 hn.2.1).1
       exact this (List.mem_map.2 ⟨y, h, he⟩)
     have hsub : ∀ y ∈ p1 ++ p2, y ∈ p1 ++ x :: p2 := fun y hy => by simp at hy ⊢; rcases hy with h | h <;> simp [h]
     have hlook : ∀ y ∈ p1 ++ x :: p2, XR ops x.1 y.1 = false := by
      intro y hy
      by_cases he : y.1 = x.1
      ·rw [he]; exact hself _ hxF
      ·rcases (qZ hpair hxF (hp y hy) (Ne.symm he)).1 with h | h
       ·exact h
       ·have := hanc _ h; rw [hpu y hy] at this; cases this
     have hqa : QK c ops R L x a := QK.unvirt hlook (hq x hx)
     obtain ⟨o', ho', hsel, hqq⟩ := hqa
     rw [ho] at ho'; cases ho'
     have hvt := qH (ops := ops) (x := x) p1 p2 a fun y hy e he => ZX (hFlt _ (hp y (hsub y hy))) (qZ hpair (hp y (hsub y hy)) hxF (hnot y hy)).2 e he
     have next : ∀ w', Sat c.σ R1 (L ++ G) w' → wpAny c.P .any ops Q fuel (listed.setIfInBounds x.1 true) (a.put o.dst x.2) w' := by
      intro w' hw'
      have hod : o.dst = XH ops x.1 := by simp [XH, ho]
      rw [hod]
      refine ih _ _ _ ⟨hs', hc', p1 ++ p2, cs, E, R1, G, hR1, fun y hy => hp y (hsub y hy), ?_, ⟨hcC, hcn⟩, hX, by rw [← hvt]; exact hE, hw', fun y hy => by rw [← hvt]; exact hq y (hsub y hy), fun j hj => ?_, ?_⟩
      ·simp only [List.map_append, List.map_cons] at hpn ⊢
       have hn := List.nodup_append.1 hpn
       exact List.nodup_append.2 ⟨hn.1, (List.nodup_cons.1 hn.2.1).2, fun u hu v hv => hn.2.2 u hu v (by simp [hv])⟩
      ·rw [hgd]
       by_cases hji : j = x.1
       ·rw [if_pos hji]
        simp only [Bool.true_eq_false, false_iff, not_or]
        subst hji
        refine ⟨fun h => ?_, fun h => ?_, fun h => ?_⟩
        ·obtain ⟨y, hy, he⟩ := List.mem_map.1 h; exact hnot y hy he
        ·have := (hF _ hxF).1.2; simp [hcC _ h] at this
        ·have := (hF _ hxF).2; simp [h] at this
       ·rw [if_neg hji, hl j hj]
        simp only [List.map_append, List.map_cons, List.mem_append, List.mem_cons]
        constructor
        ·rintro ((h | h | h) | h) <;> first | exact absurd h hji | simp [h]
        ·rintro ((h | h) | h) <;> simp [h]
      ·simp at hf ⊢; omega
     unfold wpOp
     rw [ho]
     simp only
     cases hwt : Region.wanted o (yielded ops a.tmps) with
     | true =>
      rw [if_pos rfl]
      refine .inl (Oper.wp_of_quiet (C := Sat c.σ R1 (L ++ G)) (K := fun a' => a' = a.put o.dst x.2) hw (fun a' w' hw' ha' => by subst ha'; exact next w' hw') ⟨x.2, fun w' hw' => ?_, rfl⟩)
      rcases hqq R1 hR1 G w' hw' with h | h
      ·exact h.2
      ·rw [hwt] at h; cases h.1
     | false =>
      rw [if_neg (by decide)]
      rcases hqq R1 hR1 G w hw with h | h
      ·rw [hwt] at h; cases h.1
      ·have := next w hw; rw [h.2] at this; exact this
    ·have hmem : i ∈ cs := by
      rcases (hl i hilt).1 hu with h | h | h
      ·exact absurd h hip
      ·exact h
      ·exfalso
       cases hpe : pend with
       | cons y p => have := hanc _ (hFT _ (hp y (by rw [hpe]; simp)) i h); rw [hpu y (by rw [hpe]; simp)] at this; cases this
       | nil => cases hce : cs with
        | cons k p => have := hanc _ (hCT k (hcC k (by rw [hce]; simp)) i h); rw [hcsu k (by rw [hce]; simp)] at this; cases this
        | nil => exact absurd ⟨hpe, hce⟩ hall
     have hfirst : Qb1 ops cs i = true := by
      unfold Qb1
      rw [List.all_eq_true]
      intro j hj
      rw [Bool.not_eq_true']
      cases ha : YR ops ops.size i j with
      | false => rfl
      | true => have := hanc j ha; rw [hcsu j hj] at this; cases this
     obtain ⟨n, hn⟩ : ∃ n, cs.length = n + 1 := ⟨cs.length - 1, by have := List.length_pos_of_mem hmem; omega⟩
     rw [hn] at hX
     have hkC : i ∈ Cs := hcC i hmem
     have hlk : ∀ y ∈ pend, ∀ d, XH ops y.1 = some d → d ∉ o.looksAt ops := by
      intro y hy
      refine yI ho ?_
      rcases (hFC _ (hp y hy) i hkC).2 with h | h
      ·have := hanc _ h; rw [hpu y hy] at this; cases this
      ·exact h
     have hsel := qh ho (hCs i hkC)
     obtain ⟨o', ho', hstep⟩ := hX i hmem hfirst
     rw [ho] at ho'; cases ho'
     have hst := hstep _ w hE hw
     rw [yu hlk] at hst
     have hod : o.dst = XH ops i := by simp [XH, ho]
     have hvp : ∀ u, XN ops (a.put o.dst u) pend = (XN ops a pend).put o.dst u := fun u => zg pend a fun y hy e he => by
      rw [hod] at he
      exact ZX (hFlt _ (hp y hy)) ((hFC _ (hp y hy) i hkC).1.1.2) e he
     have hdf : Fr c.n [] a := .bare (by have := hE.size; rwa [QcH] at this) (by have := hE.dfs; rwa [QaX] at this)
     have hlen : (cs.erase i).length = n := by rw [List.length_erase_of_mem hmem]; omega
     have next : ∀ u w' E' R2 G', R1.le R2 → Fr c.n E' ((XN ops a pend).put o.dst u) → Sat c.σ R2 (L ++ G') w' → XS c ops L (fun E R G => TK c ops Q R Ts (L ++ G) E) PX n (cs.erase i) E' R2 G' →
       wpAny c.P .any ops Q fuel (listed.setIfInBounds i true) (a.put o.dst u) w' := by
      intro u w' E' R2 G' hle hE' hw' hX'
      refine ih _ _ _ ⟨hs', hc', pend, cs.erase i, E', R2, G', Hp.le_trans hR1 hle, hp, hpn, ⟨fun j hj => hcC j (List.mem_of_mem_erase hj), hcn.erase i⟩, by rw [hlen]; exact hX', by rw [hvp]; exact hE', hw', fun y hy => ?_, fun j hj => ?_, ?_⟩
      ·rw [hvp, hod]
       exact QK.put ((hFC _ (hp y hy) i hkC).1.1.1) (hq y hy)
      ·rw [hgd]
       by_cases hji : j = i
       ·rw [if_pos hji]
        simp only [Bool.true_eq_false, false_iff, not_or]
        subst hji
        refine ⟨hip, fun h => ?_, fun h => ?_⟩
        ·exact hcn.not_mem_erase h
        ·have := (hC _ hkC).2; simp [h] at this
       ·rw [if_neg hji, hl j hj, List.mem_erase_of_ne hji]
      ·rw [hlen]; omega
     unfold wpOp
     rw [ho]
     simp only
     cases hwt : Region.wanted o (yielded ops a.tmps) with
     | true =>
      rw [hwt, if_pos rfl] at hst
      rw [if_pos rfl]
      refine .inl ?_
      unfold Oper.wp at hst ⊢
      rw [yB hsel hlk] at hst
      refine Qf2 hst ?_ ?_ ?_
      ·rintro u w' ⟨u', E', R2, G', hle, he, h1, h2, h3⟩
       exact next u w' E' R2 G' hle h1 h2 h3
      ·rintro q w' ⟨u', E', R2, G', hle, he, h1, h2, h3⟩
       have := h1.dfs
       cases hd2 : o.dst <;> simp [Act.put, hd2] at this
      ·exact fun ch w' h => hpan ch a w' hdf h
     | false =>
      rw [hwt, if_neg (by decide)] at hst
      rw [if_neg (by decide)]
      obtain ⟨E', R2, G', hle, h1, h2, h3⟩ := hst
      exact next undef w E' R2 G' hle h1 h2 h3
end
section
variable {c : Cx} {l : List Oper} {Q : Exit → Act → World → Prop} {E : Env} {R : Hp} {L : List Asn}
theorem Qjh {id : Nat} (Fs Cs Ts : List Nat) (G0 : List Asn) {L0 : List Asn} {KK : Env → Hp → List Asn → Prop} {PX : List PanicEntry → World → Prop} (hpan : ∀ ch (a : Act) w, Fr c.n [] a → PX ch w → Q (.panic ch) a w) (hL : Sub L0 (L ++ G0)) (hm : c.P.follows .mixedOrders = true) (hB : QaH l.toArray Fs Cs Ts = true)
  (hK : ∀ E R G, KK E R G → TK c l.toArray Q R Ts (L ++ G) E)
  (h : FJ c l.toArray R L (fun E' => XS c l.toArray L KK PX Cs.length Cs E' R G0) Fs E) : CJ c (.region id l.toArray true) Q E R L0 := by
 intro a w hf hs0
 have hs := hs0.sub hL
 refine wp_region_any hm (QiM (Q := Q) (R := R) (L := L) (PX := PX) hpan hB _ _ _ _ ?_)
 have hB' := hB
 simp only [QaH, Bool.and_eq_true, List.all_eq_true, Bool.not_eq_true', Bool.or_eq_true, decide_eq_true_eq] at hB'
 obtain ⟨⟨⟨⟨⟨⟨⟨⟨⟨⟨⟨⟨⟨⟨hlow, hcover⟩, hFn⟩, hCn⟩, hTn⟩, hself⟩, hF⟩, hC⟩, hT⟩, hpair⟩, hFs⟩, hCs⟩, hFC⟩, hFT⟩, hCT⟩ := hB'
 -- the values of those that only look
 have key : ∀ (Fs : List Nat) (a : Act) (E : Env), (∀ i ∈ Fs, XR l.toArray i i = false) → (∀ i ∈ Fs, qz l.toArray i = true) → yV l.toArray Fs = true → Fr c.n E a →
   FJ c l.toArray R L (fun E' => XS c l.toArray L KK PX Cs.length Cs E' R G0) Fs E →
   ∃ (pend : List (Nat × Value)) (E' : Env), pend.map (·.1) = Fs ∧ Fr c.n E' (XN l.toArray a pend) ∧ (∀ x ∈ pend, QK c l.toArray R L x (XN l.toArray a pend)) ∧ XS c l.toArray L KK PX Cs.length Cs E' R G0 := by
  intro Fs
  induction Fs with
  | nil => intro a E _ _ _ hf h; exact ⟨[], E, rfl, hf, fun x hx => (by cases hx), h⟩
  | cons i is ih =>
   intro a E hself hsel hpair hf h
   obtain ⟨v, E1, ⟨o, d, ho, hd, hn, rfl, hspec⟩, hrest⟩ := h
   have hpair' := hpair
   simp only [yV, Bool.and_eq_true, List.all_eq_true, Bool.not_eq_true', Bool.or_eq_true] at hpair'
   have hda : XH l.toArray i = some d := by unfold XH; rw [ho]; exact hd
   have hilt : i < l.toArray.size := (Array.getElem?_eq_some_iff.1 ho).1
   obtain ⟨pend, E', e1, e2, e3, e4⟩ := ih (a.put (some d) v) _ (fun j hj => hself j (by simp [hj])) (fun j hj => hsel j (by simp [hj])) hpair'.2 (hf.put hn v) hrest
   have hmem : ∀ y ∈ pend, y.1 ∈ is := fun y hy => by rw [← e1]; exact List.mem_map.2 ⟨y, hy, rfl⟩
   have hvt : XN l.toArray a ((i, v) :: pend) = XN l.toArray (a.put (some d) v) pend := by
    have := qH (ops := l.toArray) (x := (i, v)) [] pend a fun y hy e he => by
     simp only [List.nil_append] at hy
     exact ZX (by
      have := hmem y hy
      rw [← e1] at this
      obtain ⟨z, hz, hze⟩ := List.mem_map.1 this
      obtain ⟨o', ho', _⟩ := e3 z hz
      rw [← hze]
      exact (Array.getElem?_eq_some_iff.1 ho').1) (hpair'.1 y.1 (hmem y hy)).1.2 e he
    simpa [hda] using this
   refine ⟨(i, v) :: pend, E', by simp [e1], by rw [hvt]; exact e2, fun x hx => ?_, e4⟩
   rw [hvt]
   rcases List.mem_cons.1 hx with rfl | hx
   ·have q0 : QK c l.toArray R L (i, v) a := ⟨o, ho, qh ho (hsel i (by simp)), fun R' hR G w hw => by
     rcases hspec with ⟨hw1, hy⟩ | ⟨hw1, hy⟩
     ·exact .inl ⟨hw1 a hf, hy R' hR G a w hf hw⟩
     ·exact .inr ⟨hw1 a hf, hy⟩⟩
    have q1 : QK c l.toArray R L (i, v) (a.put (XH l.toArray i) v) := QK.put (hself i (by simp)) q0
    rw [hda] at q1
    have : ∀ (p : List (Nat × Value)) (a : Act), (∀ y ∈ p, XR l.toArray i y.1 = false) → QK c l.toArray R L (i, v) a → QK c l.toArray R L (i, v) (XN l.toArray a p) := by
     intro p
     induction p with
     | nil => intro a _ q; exact q
     | cons y p ihp => intro a hp q; exact QK.put (hp y (by simp)) (ihp a (fun z hz => hp z (by simp [hz])) q)
    exact this pend _ (fun y hy => (hpair'.1 y.1 (hmem y hy)).1.1.1) q1
   ·exact e3 x hx
 obtain ⟨pend, E', e1, e2, e3, e4⟩ := key Fs a E hself hFs hpair hf h
 have hmono : ∀ (n : Nat) (cs : List Nat) (E : Env) (R : Hp) (G : List Asn), XS c l.toArray L KK PX n cs E R G → XS c l.toArray L (fun E R G => TK c l.toArray Q R Ts (L ++ G) E) PX n cs E R G := by
  intro n
  induction n with
  | zero => intro cs E R G h; exact hK E R G h
  | succ n ih =>
   intro cs E R G h i hi hfi
   obtain ⟨o, ho, hst⟩ := h i hi hfi
   refine ⟨o, ho, fun a w ha hw => ?_⟩
   have := hst a w ha hw
   split
   ·rename_i hwt
    rw [if_pos hwt] at this
    exact Oper.wp_mono (fun a' w' ⟨u, E', R', G', hle, h1, h2, h3, h4⟩ => ⟨u, E', R', G', hle, h1, h2, h3, ih _ _ _ _ h4⟩) this
   ·rename_i hwt
    rw [if_neg hwt] at this
    obtain ⟨E', R', G', hle, h1, h2, h3⟩ := this
    exact ⟨E', R', G', hle, h1, h2, ih _ _ _ _ h3⟩
 have hrep : ∀ j, (Array.replicate l.toArray.size false).getD j false = false := fun j => by
  rw [Array.getD_eq_getD_getElem?, Array.getElem?_replicate]; split <;> rfl
 refine ⟨by simp, fun i o _ hl => (by rw [hrep] at hl; cases hl), pend, Cs, E', R, G0, Hp.le_refl R, fun x hx => by rw [← e1]; exact List.mem_map.2 ⟨x, hx, rfl⟩, by rw [e1]; exact hFn, ⟨fun _ h => h, hCn⟩, hmono _ _ _ _ _ e4, e2, hs.drew, e3, fun j hj => ?_, ?_⟩
 ·rw [hrep, e1]
  simp only [true_iff]
  have := hcover j (by simpa using hj)
  simp only [List.contains_iff_mem] at this
  rcases this with (h | h) | h <;> simp [h]
 ·have hc : (Fs ++ Cs ++ Ts).length ≤ l.toArray.size := by
   have hnd : (Fs ++ Cs ++ Ts).Nodup := by
    rw [List.nodup_append]
    refine ⟨List.nodup_append.2 ⟨hFn, hCn, fun u hu v hv he => ?_⟩, hTn, fun u hu v hv he => ?_⟩
    ·subst he; have := (hF u hu).1.2; simp [hv] at this
    ·subst he
     rcases List.mem_append.1 hu with h | h
     ·have := (hF u h).2; simp [hv] at this
     ·have := (hC u h).2; simp [hv] at this
   have hlt : ∀ x ∈ Fs ++ Cs ++ Ts, x ∈ List.range l.toArray.size := by
    intro x hx
    rw [List.mem_range]
    simp only [List.mem_append] at hx
    rcases hx with (h | h) | h
    ·exact Nat.lt_of_lt_of_le (Nat.lt_succ_self _) (Nat.le_of_ble_eq_true (hF x h).1.1)
    ·exact Nat.lt_of_lt_of_le (Nat.lt_succ_self _) (Nat.le_of_ble_eq_true (hC x h).1)
    ·exact Nat.lt_of_lt_of_le (Nat.lt_succ_self _) (Nat.le_of_ble_eq_true (hT x h))
   exact yJ _ _ hnd fun x hx => by simpa using hlt x hx
  have hl : pend.length = Fs.length := by rw [← e1]; simp
  simp at hc
  rw [hl]
  simp
  omega
end
section
variable {c : Cx} {ops : Array Oper} {Q : Exit → Act → World → Prop} {R : Hp} {L : List Asn} {E : Env} {PX : List PanicEntry → World → Prop}
theorem Qf1 {P : Program} {o : Oper} {a : Act} {w : World} {K K' : Act → World → Prop} (h : wpList P ops (Exit.then K (PE PX)) [o] a w) (hk : ∀ a' w', K a' w' → K' a' w') :
  if Region.wanted o (yielded ops a.tmps) then o.wp P a w K' (PE PX) else K' (a.put o.dst undef) w := by
 unfold wpList at h
 split at h
 ·rename_i hw
  rw [if_pos hw]
  rcases h with h | h
  ·unfold Oper.wp at *
   generalize (execOp a.eval o).run P w = r at *
   cases r with
   | ok n w' =>
    cases n <;> simp only [Oper.upon, wpList, Exit.then] at h ⊢ <;> first | exact hk _ _ h | exact h.elim | skip
    case enter f args =>
     refine h.mono fun e w'' hh => ?_
     cases e with
     | returned v => exact hk _ _ hh
     | panicked ch => exact hh
     | outgrown => obtain ⟨_, _, ch', e, _⟩ := hh; cases e
    case row row args => exact h.mono fun v w'' hh => hk _ _ hh
   | halt x w' =>
    cases x <;> simp only [Oper.upon, Exit.then] at h ⊢
    exact h
  ·obtain ⟨_, a', w', ch, e, _⟩ := h; cases e
 ·rename_i hw
  rw [if_neg hw]
  exact hk _ _ h
theorem QgV {P : Program} {o : Oper} {a : Act} {K : Act → World → Prop} {r : Result Next} (h : o.upon P a K (PE PX) r) (hd : ∀ a' w', K a' w' → a'.defers = []) :
  o.upon P a (fun a' w' => (∃ u, a' = a.put o.dst u) ∧ K a' w') (PE PX) r := by
 cases r with
 | ok n w' =>
  cases n <;> simp only [Oper.upon] at h ⊢ <;> first | exact ⟨⟨_, rfl⟩, h⟩ | exact h.elim | skip
  case defer d => have := hd _ _ h; cases hdd : o.dst <;> simp [Act.put, hdd] at this
  case enter f args =>
   refine h.mono fun e w'' hh => ?_
   cases e with
   | returned v => exact ⟨⟨_, rfl⟩, hh⟩
   | panicked ch => exact hh
   | outgrown => obtain ⟨_, _, ch', e, _⟩ := hh; cases e
  case row row args => exact h.mono fun v w'' hh => ⟨⟨_, rfl⟩, hh⟩
 | halt x w' => cases x <;> simp only [Oper.upon] at h ⊢ <;> exact h
def YK (c : Cx) (R : Hp) (L : List Asn) (X : Env → Hp → List Asn → Prop) (a : Act) (w : World) : Prop :=
 ∃ E' R' G', R.le R' ∧ Fr c.n E' a ∧ Sat c.σ R' (L ++ G') w ∧ X E' R' G'
theorem yw {R1 : Hp} {Qx : Exit → Act → World → Prop} {X : Env → Hp → List Asn → Prop} {M G' : List Asn} (hR : R.le R1) (hS : Sub M (L ++ G')) (h : X E R1 G') : RJ c ops (Exit.then (YK c R L X) Qx) [] E R1 M :=
 Qe fun a w hf hs => ⟨E, R1, G', hR, hf, hs.sub hS, h⟩
theorem yr {X : Env → Hp → List Asn → Prop} {G : List Asn} {i : Nat} {o : Oper} (ho : ops[i]? = some o)
  (h : RJ c ops (Exit.then (YK c R L X) (PE PX)) [o] E R (L ++ G)) : YJ c ops L PX X i E R G :=
 ⟨o, ho, fun a w hf hs => by
  have := Qf1 (h a w hf hs) (K' := YK c R L X) (fun _ _ h => h)
  split
  ·rename_i hw
   rw [if_pos hw] at this
   refine Oper.wp_mono ?_ (QgV this fun a' w' ⟨E', R', G', _, h1, _⟩ => h1.dfs)
   rintro a' w' ⟨⟨u, rfl⟩, E', R', G', hle, h1, h2, h3⟩
   exact ⟨u, E', R', G', hle, rfl, h1, h2, h3⟩
  ·rename_i hw
   rw [if_neg hw] at this
   exact this⟩
def AY (c : Cx) (ops : Array Oper) (L : List Asn) (K : Env → Hp → List Asn → Prop) (PX : List PanicEntry → World → Prop) (n : Nat) (rem : List Nat) (E : Env) (R : Hp) (G : List Asn) : List Nat → Prop
 | [] => True
 | i :: is => YJ c ops L PX (XS c ops L K PX n (rem.erase i)) i E R G ∧ AY c ops L K PX n rem E R G is
theorem AY.spec {K : Env → Hp → List Asn → Prop} {n : Nat} {rem : List Nat} {G : List Asn} : ∀ {is : List Nat}, AY c ops L K PX n rem E R G is → ∀ i ∈ is, YJ c ops L PX (XS c ops L K PX n (rem.erase i)) i E R G
 | [], _, i, h => by cases h
 | j :: is, h, i, hi => by
  rcases List.mem_cons.1 hi with rfl | hi
  ·exact h.1
  ·exact AY.spec h.2 i hi
theorem yD {K : Env → Hp → List Asn → Prop} {n : Nat} {rem : List Nat} {G : List Asn} (fs : List Nat) (hf : (rem.filter fun i => Qb1 ops rem i) = fs) (h : AY c ops L K PX n rem E R G fs) : XS c ops L K PX (n + 1) rem E R G :=
 fun i hi hfi => AY.spec h i (by rw [← hf]; exact List.mem_filter.2 ⟨hi, hfi⟩)
end
section
variable {c : Cx} {l : List Oper} {Q : Exit → Act → World → Prop} {R : Hp} {L : List Asn} {E : Env} {PX : List PanicEntry → World → Prop}
theorem Qk0 {id : Nat} (Fs Cs Ts : List Nat) (G0 : List Asn) {L0 : List Asn} {tl : List Oper} (hpan : ∀ ch (a : Act) w, Fr c.n [] a → PX ch w → Q (.panic ch) a w) (hL : Sub L0 (L ++ G0)) (hm : c.P.follows .mixedOrders = true) (hB : QaH l.toArray Fs Cs Ts = true) (hr : qC l.toArray Ts = true) (ht : jA l Ts = some tl)
  (h : FJ c l.toArray R L (fun E' => XS c l.toArray L (fun E R G => RJ c l.toArray Q tl E R (L ++ G)) PX Cs.length Cs E' R G0) Fs E) : CJ c (.region id l.toArray true) Q E R L0 := by
 have hB' := hB
 simp only [QaH, Bool.and_eq_true, List.all_eq_true, Bool.not_eq_true', Bool.or_eq_true, decide_eq_true_eq] at hB'
 obtain ⟨⟨⟨⟨⟨⟨⟨⟨⟨⟨⟨⟨⟨⟨hlow, hcover⟩, hFn⟩, hCn⟩, hTn⟩, hself⟩, hF⟩, hC⟩, hT⟩, hpair⟩, hFs⟩, hCs⟩, hFC⟩, hFT⟩, hCT⟩ := hB'
 refine Qjh (KK := fun E R G => RJ c l.toArray Q tl E R (L ++ G)) Fs Cs Ts G0 hpan hL hm hB (fun E R G h fuel listed a w hs hc hl hn hf hsat => ?_) h
 exact Qcp hlow Ts fuel listed a w hr hTn (fun j hj => Nat.lt_of_lt_of_le (Nat.lt_succ_self _) (Nat.le_of_ble_eq_true (hT j hj))) hs hc hl hn (zE ht (h a w hf hsat))
theorem QbI {c : Cx} {ops : Array Oper} {R : Hp} {L : List Asn} {E : Env} {PX : List PanicEntry → World → Prop} {K : Env → Hp → List Asn → Prop} {rem : List Nat} {G : List Asn} (h : K E R G) : XS c ops L K PX 0 rem E R G := h
theorem QlJ : ∀ ch (a : Act) w, Fr c.n [] a → (fun _ _ => False : List PanicEntry → World → Prop) ch w → Q (.panic ch) a w := fun _ _ _ _ h => h.elim
end
def qV (g : Nat) (l : List Value) (e : TypeId) (fz : Nat × Nat) : Asn := fun h => h g = some (.cells ⟨l⟩ e fz)
section
variable {c : Cx} {ops : Array Oper} {Q : Exit → Act → World → Prop} {E : Env} {R : Hp} {L M : List Asn} {rest : List Oper} {d : Option Tmp} {ty : TypeId} {p : String} {af : Array Edge} {g : Option (Nat × Bool)}
theorem QkY {x : Code} {e : TypeId} {sz n : Nat} {v : Value} {xs : List Value} (f : Find (slc e sz v n xs) L M) (hn : 0 < n)
  (h : ∀ (g cap : Nat) (fz : Nat × Nat) (pre post : List Value), v = .slice (some ⟨g, List.length pre, none⟩) n cap → xs.length = n * sz → (∀ o, o < (pre ++ (xs ++ post)).length → ¬ (fz.1 ≤ o ∧ o < fz.2)) →
   n ≤ cap → cap ≤ maxLen → cap * sz ≤ (xs ++ post).length → CJ c x Q E R (qV g (pre ++ (xs ++ post)) e fz :: M)) : CJ c x Q E R L := fun a w ha hs => by
 obtain ⟨hl, hc⟩ := (hs.find f).slc_cases
 rcases hc with ⟨_, h0, _⟩ | ⟨g, cap, fz, pre, post, hv, hf, hnc, hcm, hcs, hsg⟩
 ·omega
 ·exact h g cap fz pre post hv hl hf hnc hcm hcs a w ha hsg
theorem Qg6 {e : TypeId} {sz n cap g : Nat} {fz : Nat × Nat} {pre xs post : List Value} (hl : xs.length = n * sz) (hf : ∀ o, o < (pre ++ (xs ++ post)).length → ¬ (fz.1 ≤ o ∧ o < fz.2)) (hn : n ≤ cap) (hm : cap ≤ maxLen) (hc : cap * sz ≤ (xs ++ post).length)
  (h : Hp) (hh : qV g (pre ++ (xs ++ post)) e fz h) : slc e sz (.slice (some ⟨g, pre.length, none⟩) n cap) n xs h := ⟨hl, .inr ⟨g, cap, fz, pre, post, rfl, hh, hf, hn, hm, hc⟩⟩
theorem Sat.row_cell {σ : World} {w : World} {b : Nat} {l : List Value} {e : TypeId} {fz : Nat × Nat} (s : Sat σ R (qV b l e fz :: L) w) (o : Nat) : w.cell? ⟨b, o, none⟩ = l[o]? := by
 have := YW s
 simp [World.cell?, this]
theorem Sat.row_set {σ : World} {w : World} {b : Nat} {l news : List Value} {e : TypeId} {fz : Nat × Nat} {o : Nat} (s : Sat σ R (qV b l e fz :: L) w) (hl : o + news.length ≤ l.length) :
  Sat σ R (qV b (l.take o ++ news ++ l.drop (o + news.length)) e fz :: L) (w.setCells b o news) := by
 have hg := YW s
 have e0 : l = l.take o ++ l.drop o := (List.take_append_drop o l).symm
 rw [e0] at hg
 have hlen : (l.take o).length = o := by simp; omega
 have h3 := qx news (l.take o) (l.drop o) w hg (by simp; omega)
 rw [hlen] at h3
 obtain ⟨o1, o2, o3⟩ := qw (g := b) news o w
 refine Sat.put s o1 o2 o3 (fun k hk _ => qg news _ w k hk) ?_
 rw [h3]
 simp
theorem Qaa {P : Program} {σ : World} {w : World} {b : Nat} {l news : List Value} {e : TypeId} {fz : Nat × Nat} {o : Nat} (s : Sat σ R (qV b l e fz :: L) w) (hf : ∀ o, o < l.length → ¬ (fz.1 ≤ o ∧ o < fz.2)) (hl : o + news.length ≤ l.length) :
  (∀ j, j < news.length → (w.cell? ⟨b, o + j, none⟩).isSome = true) ∧ (∀ j, j < news.length → w.frozen? ⟨b, o + j, none⟩ = false) := by
 have hg := YW s
 refine ⟨fun j hj => ?_, fun j hj => ?_⟩
 ·rw [s.row_cell]; simp; omega
 ·have := hf (o + j) (by omega)
  obtain ⟨lo, hi⟩ := fz
  simp only at this
  simp [World.frozen?, hg]
  omega
theorem Qj2 {tx e' e : TypeId} {sz m k b o : Nat} {fz : Nat × Nat} {l news : List Value} (hk : c.P.underlying tx = some (.slice e')) (f : Find (qV b l e fz) L M) (hl : news.length = m * sz) (hc : ∀ (j : Nat) u, news[j]? = some u → l[o + j]? = some u) (h1 : ∀ u ∈ news, u.oneCell' = true) :
  Qat c R L tx sz (.slice (some ⟨b, o, none⟩) m k) m news := fun w hs =>
 Src.ofSlice w hk _ _ _ _ hl (fun j u hj => by rw [Yr, (hs.find f).row_cell]; exact hc j u hj) h1
theorem Qcq {dd : Nat} {x y : Operand} {t tx e e0 : TypeId} {sz by_ n m cap b o : Nat} {fz : Nat × Nat} {u : Value} {l news ys : List Value} (hT : AppT c.P t e sz by_)
  (hw : Wn c ops E ⟨some dd, .call { callee := .builtin .append, args := #[x, y], argTypes := #[t, tx] }, ty, p, af, g⟩ true) (hd : Nat.blt dd c.n = true)
  (e1 : ev E x = some (.slice (some ⟨b, o, none⟩) n cap)) (e2 : ev E y = some u) (f : Find (qV b l e0 fz) L M) (hf : ∀ o, o < l.length → ¬ (fz.1 ≤ o ∧ o < fz.2)) (hsrc : Qat c R L tx sz u m news) (hroom : n + m ≤ cap) (hl : o + n * sz + m * sz ≤ l.length)
  (hys : l.take (o + n * sz) ++ news ++ l.drop (o + n * sz + m * sz) = ys)
  (h : RJ c ops Q rest ((dd, .slice (some ⟨b, o, none⟩) (n + m) cap) :: E) R (qV b ys e0 fz :: M)) : RJ c ops Q (⟨some dd, .call { callee := .builtin .append, args := #[x, y], argTypes := #[t, tx] }, ty, p, af, g⟩ :: rest) E R L := by
 refine Qhc hw rfl hd (fun a w hf' hs => ?_) h
 obtain ⟨ht, i, z, hi, hz, rfl, rfl, hzs⟩ := hT
 have hsr := hsrc w hs
 have hnl := hsr.newsLen
 have hs' := hs.find f
 obtain ⟨c1, c2⟩ := Qaa (P := c.P) (o := o + n * i.size) (news := news) hs' hf (by omega)
 have r1 := run_append_room_src w t tx ty e i ht hi b o n cap u m news hsr hroom (by simpa using c1) (by simpa using c2)
 refine ⟨w.setCells b (o + n * i.size) news, ?_, ?_⟩
 ·simp [execOp, resolve, invoke, builtin, hf'.ev e1, hf'.ev e2, r1]
 ·have := hs'.row_set (news := news) (o := o + n * i.size) (by omega)
  rw [hnl] at this
  rw [← hys]; exact this
theorem Qir {x : Operand} {t e e0 : TypeId} {n k b o : Nat} {fz : Nat × Nat} {z : Value} {l news ys : List Value} (hT : c.P.underlying t = some (.slice e)) (hz : ∀ w, (zeroValue e).run c.P w = .ok z w) (hzc : (Builtin.zeroCells z.cells n).toList = news) (h1 : ∀ u ∈ news, u.oneCell' = true) (hn : n ≠ 0)
  (hw : Wn c ops E ⟨none, .call { callee := .builtin .clear, args := #[x], argTypes := #[t] }, ty, p, af, g⟩ true)
  (e1 : ev E x = some (.slice (some ⟨b, o, none⟩) n k)) (f : Find (qV b l e0 fz) L M) (hf : ∀ o, o < l.length → ¬ (fz.1 ≤ o ∧ o < fz.2)) (hl : o + news.length ≤ l.length)
  (hys : l.take o ++ news ++ l.drop (o + news.length) = ys) (h : RJ c ops Q rest E R (qV b ys e0 fz :: M)) : RJ c ops Q (⟨none, .call { callee := .builtin .clear, args := #[x], argTypes := #[t] }, ty, p, af, g⟩ :: rest) E R L := by
 intro a w hf' hs
 unfold wpList
 rw [if_pos (hw a hf')]
 refine .inl ?_
 have hs' := hs.find f
 obtain ⟨c1, c2⟩ := Qaa (P := c.P) (o := o) (news := news) hs' hf hl
 have hst := run_storeCells_cells (P := c.P) b o news 0 w (by simpa using c1) (by simpa using c2) h1
 simp only [Nat.add_zero] at hst
 obtain ⟨m, rfl⟩ : ∃ m, n = m + 1 := ⟨n - 1, by omega⟩
 have r1 : (Builtin.clear_ #[t] ty #[.slice (some ⟨b, o, none⟩) (m + 1) k]).run c.P w = .ok (.tuple #[]) (w.setCells b o news) := by
  simp [Builtin.clear_, run_underlying hT, hz, hzc, hst]
 have r : (execOp a.eval ⟨none, .call { callee := .builtin .clear, args := #[x], argTypes := #[t] }, ty, p, af, g⟩).run c.P w = .ok (.value (.tuple #[])) (w.setCells b o news) := by
  simp [execOp, resolve, invoke, builtin, hf'.ev e1, r1]
 unfold Oper.wp
 rw [r]
 simp only [Oper.upon]
 exact h _ _ hf' (hys ▸ hs'.row_set hl)
theorem QeK {x lo hi mx : Operand} {t e : TypeId} {q : Option Addr} {n k sz l h m : Nat} {i1 i2 i3 : IntKind} (hT : c.P.underlying t = some (.slice e)) (hS : ∀ w, (sizeOf e).run c.P w = .ok sz w)
  (e1 : ev E x = some (.slice q n k)) (hl : ev E lo = some (.int i1 (l : Int))) (hh : ev E hi = some (.int i2 (h : Int))) (hm : ev E mx = some (.int i3 (m : Int))) (hb : l ≤ h ∧ h ≤ m ∧ m ≤ k) :
  Yld c E R L ⟨d, .slice t x (some lo) (some hi) (some mx), ty, p, af, g⟩ (.slice (Yy q l m sz) (h - l) (m - l)) :=
 fun a w hf _ => by
  have bnd : ∀ (ik : IntKind) (m y : Nat) (code : BoundsCode), m ≤ y → (Instr.sliceBound (.int ik (m : Int)) y code).run c.P w = .ok m w := fun ik m y code hm => by
   have h1 : (0 : Int) ≤ m ∧ (m : Int) ≤ y := ⟨by omega, by omega⟩
   simp [Instr.sliceBound, asIntOf, hm]
  have r : (Instr.sliceBounds true n k (some (a.eval lo)) (some (a.eval hi)) (some (a.eval mx))).run c.P w = .ok (l, h, m) w := by
   unfold Instr.sliceBounds
   simp [hf.ev hl, hf.ev hh, hf.ev hm, bnd _ _ _ _ hb.1, bnd _ _ _ _ hb.2.1, bnd _ _ _ _ hb.2.2]
  have r2 : (Instr.sliceAt t (.slice q n k) (some (a.eval lo)) (some (a.eval hi)) (some (a.eval mx))).run c.P w = .ok (.slice (Yy q l m sz) (h - l) (m - l)) w := by
   unfold Instr.sliceAt
   simp only [Sem.run_bind, run_underlying hT, Result.andThen_ok]
   unfold Instr.slice
   simp only [Sem.run_bind, run_underlying hT, Result.andThen_ok, r, hS, Sem.run_pure]
   rfl
  simp [execOp, hf.ev e1, r2, Oper.quietUpon]
end
structure Elt (α : Type) where
 P : Hp → α → List Value → Prop
 sz : Nat
 mono : ∀ {R R' : Hp} {x : α} {cs : List Value}, R.le R' → P R x cs → P R' x cs
 len : ∀ {R : Hp} {x : α} {cs : List Value}, P R x cs → cs.length = sz
 one : ∀ {R : Hp} {x : α} {cs : List Value}, P R x cs → ∀ u ∈ cs, u.oneCell' = true
section
variable {α : Type} (T : Elt α) {R R' : Hp} {l : List α} {css : List (List Value)} {v : Value}
def Els (R : Hp) (l : List α) (css : List (List Value)) : Prop := css.length = l.length ∧ ∀ (i : Nat) (x : α) (cs : List Value), l[i]? = some x → css[i]? = some cs → T.P R x cs
def FrS (R : Hp) (v : Value) (n : Nat) (xs : List Value) : Prop := ∃ q cap, v = .slice q n cap ∧ n ≤ cap ∧ cap ≤ maxLen ∧ (n = 0 ∨ ∃ b off, q = some ⟨b, off, none⟩ ∧ ∀ (j : Nat) (u : Value), xs[j]? = some u → Hp.cell R ⟨b, off + j, none⟩ = some u)
def FrX (R : Hp) (l : List α) (v : Value) : Prop := ∃ css, Els T R l css ∧ FrS R v l.length css.flatten
variable {T}
theorem FrS.mono {n : Nat} {xs : List Value} (hR : R.le R') (h : FrS R v n xs) : FrS R' v n xs := by
 obtain ⟨q, cap, e, h1, h2, h3⟩ := h
 refine ⟨q, cap, e, h1, h2, ?_⟩
 rcases h3 with h | ⟨b, off, hq, hc⟩
 ·exact .inl h
 ·exact .inr ⟨b, off, hq, fun j u hj => Yd hR (hc j u hj)⟩
theorem FrozenS.fr {n : Nat} {xs : List Value} (h : FrozenS R v n xs) : FrS R v n xs := by
 rcases h with ⟨rfl, rfl⟩ | ⟨b, off, cap, rfl, h1, h2, h3⟩
 ·exact ⟨none, 0, rfl, Nat.le_refl _, by simp [maxLen], .inl rfl⟩
 ·exact ⟨_, cap, rfl, h1, h2, .inr ⟨b, off, rfl, h3⟩⟩
theorem Els.mono (hR : R.le R') (h : Els T R l css) : Els T R' l css := ⟨h.1, fun i x cs h1 h2 => T.mono hR (h.2 i x cs h1 h2)⟩
theorem FrX.mono (hR : R.le R') (h : FrX T R l v) : FrX T R' l v := by
 obtain ⟨css, h1, h2⟩ := h
 exact ⟨css, h1.mono hR, h2.mono hR⟩
theorem Els.nil : Els T R [] [] := ⟨rfl, fun i x cs h _ => by simp at h⟩
theorem FrX.nil : FrX T R [] (.slice none 0 0) := ⟨[], Els.nil, none, 0, rfl, Nat.le_refl _, by simp [maxLen], .inl rfl⟩
theorem Els.len (h : Els T R l css) : ∀ c ∈ css, c.length = T.sz := fun c hc => by
 obtain ⟨i, hi, rfl⟩ := List.getElem_of_mem hc
 exact T.len (h.2 i (l[i]'(by rw [← h.1]; exact hi)) _ (by simp) (by simp [hi]))
theorem Els.one (h : Els T R l css) : ∀ u ∈ css.flatten, u.oneCell' = true := fun u hu => by
 obtain ⟨c, hc, hu⟩ := List.mem_flatten.1 hu
 obtain ⟨i, hi, rfl⟩ := List.getElem_of_mem hc
 exact T.one (h.2 i (l[i]'(by rw [← h.1]; exact hi)) _ (by simp) (by simp [hi])) u hu
theorem Qbx {n : Nat} : ∀ {css : List (List Value)}, (∀ c ∈ css, c.length = n) → css.flatten.length = css.length * n
 | [], _ => by simp
 | c :: css, h => by rw [List.flatten_cons, List.length_append, Qbx (fun x hx => h x (by simp [hx])), h c (by simp), List.length_cons, Nat.add_mul]; omega
theorem Qby {n : Nat} : ∀ {css : List (List Value)} {i : Nat} {cs : List Value} {j : Nat} {u : Value}, (∀ c ∈ css, c.length = n) → css[i]? = some cs → cs[j]? = some u → css.flatten[i * n + j]? = some u
 | [], i, cs, j, u, _, h, _ => by simp at h
 | c :: css, 0, cs, j, u, h4, h, hj => by
  simp at h; subst h
  have := (List.getElem?_eq_some_iff.1 hj).1
  simp only [List.flatten_cons, Nat.zero_mul, Nat.zero_add]
  rw [List.getElem?_append_left this, hj]
 | c :: css, i + 1, cs, j, u, h4, h, hj => by
  have hc := h4 c (by simp)
  simp only [List.flatten_cons]
  rw [List.getElem?_append_right (by rw [Nat.add_mul]; omega), hc, show (i + 1) * n + j - n = i * n + j by rw [Nat.add_mul]; omega]
  exact Qby (fun x hx => h4 x (by simp [hx])) (by simpa using h) hj
theorem Qmu {n : Nat} {css : List (List Value)} {i : Nat} {cs : List Value} (h4 : ∀ c ∈ css, c.length = n) (h : css[i]? = some cs) : (css.flatten.drop (i * n)).take n = cs := by
 have hl := h4 cs (List.mem_of_getElem? h)
 have hi := (List.getElem?_eq_some_iff.1 h).1
 have hf := Qbx h4
 have hmul : (i + 1) * n ≤ css.length * n := Nat.mul_le_mul_right _ hi
 rw [Nat.add_mul] at hmul
 apply List.ext_getElem?
 intro j
 rw [List.getElem?_take]
 split
 ·rename_i hj
  rw [List.getElem?_drop]
  have e : cs[j]? = some (cs[j]'(by omega)) := by simp
  rw [e, Qby h4 h e]
 ·rename_i hj
  rw [List.getElem?_eq_none (by omega)]
theorem QgE {n : Nat} : ∀ {css : List (List Value)} (i : Nat), (∀ c ∈ css, c.length = n) → css.flatten.take (i * n) = (css.take i).flatten
 | [], i, _ => by simp
 | c :: css, 0, _ => by simp
 | c :: css, i + 1, h => by
  have hc := h c (by simp)
  rw [List.flatten_cons, List.take_append, hc, List.take_of_length_le (by rw [hc, Nat.add_mul]; omega), show (i + 1) * n - n = i * n by rw [Nat.add_mul]; omega, QgE i (fun x hx => h x (by simp [hx]))]
  simp
theorem QgG {n : Nat} : ∀ {css : List (List Value)} (i : Nat), (∀ c ∈ css, c.length = n) → css.flatten.drop (i * n) = (css.drop i).flatten
 | [], i, _ => by simp
 | c :: css, 0, _ => by simp
 | c :: css, i + 1, h => by
  have hc := h c (by simp)
  rw [List.flatten_cons, List.drop_append, hc, List.drop_of_length_le (by rw [hc, Nat.add_mul]; omega), show (i + 1) * n - n = i * n by rw [Nat.add_mul]; omega, QgG i (fun x hx => h x (by simp [hx]))]
  simp
theorem Els.flat (h : Els T R l css) : css.flatten.length = l.length * T.sz := by rw [Qbx h.len, h.1]
theorem Els.get (h : Els T R l css) {i : Nat} {x : α} (hx : l[i]? = some x) : ∃ cs, css[i]? = some cs ∧ T.P R x cs ∧ (css.flatten.drop (i * T.sz)).take T.sz = cs := by
 have hi := (List.getElem?_eq_some_iff.1 hx).1
 have e : css[i]? = some (css[i]'(by rw [h.1]; exact hi)) := by simp [h.1, hi]
 exact ⟨_, e, h.2 i x _ hx e, Qmu h.len e⟩
theorem Els.snoc (k : Els T R l css) {y : α} {cy : List Value} (h : T.P R y cy) : Els T R (l ++ [y]) (css ++ [cy]) := by
 refine ⟨by simp [k.1], fun i x cs h1 h2 => ?_⟩
 rcases Nat.lt_or_ge i l.length with hi | hi
 ·rw [List.getElem?_append_left hi] at h1
  rw [List.getElem?_append_left (by rw [k.1]; exact hi)] at h2
  exact k.2 i x cs h1 h2
 ·rw [List.getElem?_append_right hi] at h1
  rw [List.getElem?_append_right (by rw [k.1]; exact hi), k.1] at h2
  cases hd : i - l.length with
  | zero => rw [hd] at h1 h2; simp at h1 h2; subst h1 h2; exact h
  | succ n => rw [hd] at h1; simp at h1
theorem Els.app {l' : List α} {css' : List (List Value)} (k : Els T R l css) (h : Els T R l' css') : Els T R (l ++ l') (css ++ css') := by
 refine ⟨by simp [k.1, h.1], fun i x cs h1 h2 => ?_⟩
 rcases Nat.lt_or_ge i l.length with hi | hi
 ·rw [List.getElem?_append_left hi] at h1
  rw [List.getElem?_append_left (by rw [k.1]; exact hi)] at h2
  exact k.2 i x cs h1 h2
 ·rw [List.getElem?_append_right hi] at h1
  rw [List.getElem?_append_right (by rw [k.1]; exact hi), k.1] at h2
  exact h.2 _ x cs h1 h2
theorem Els.take (k : Els T R l css) (n : Nat) : Els T R (l.take n) (css.take n) := by
 refine ⟨by simp [k.1], fun i x cs h1 h2 => ?_⟩
 rw [List.getElem?_take] at h1 h2
 split at h1
 ·rename_i hi; rw [if_pos hi] at h2; exact k.2 i x cs h1 h2
 ·cases h1
theorem Els.drop (k : Els T R l css) (n : Nat) : Els T R (l.drop n) (css.drop n) := by
 refine ⟨by simp [k.1], fun i x cs h1 h2 => ?_⟩
 rw [List.getElem?_drop] at h1 h2
 exact k.2 _ x cs h1 h2
theorem FrX.shape (h : FrX T R l v) : ∃ q cap, v = .slice q l.length cap ∧ l.length ≤ cap ∧ cap ≤ maxLen := by
 obtain ⟨css, _, q, cap, e, h1, h2, _⟩ := h
 exact ⟨q, cap, e, h1, h2⟩
theorem FrX.one (h : FrX T R l v) : v.oneCell' = true := by obtain ⟨q, cap, rfl, _⟩ := h.shape; rfl
theorem FrX.at (h : FrX T R l v) {i : Nat} {x : α} (hx : l[i]? = some x) : ∃ b off cap cs, v = .slice (some ⟨b, off, none⟩) l.length cap ∧ T.P R x cs ∧ cs.length = T.sz ∧ ∀ (j : Nat) (u : Value), cs[j]? = some u → Hp.cell R ⟨b, off + i * T.sz + j, none⟩ = some u := by
 obtain ⟨css, he, q, cap, e, h1, h2, h3⟩ := h
 have hi := (List.getElem?_eq_some_iff.1 hx).1
 obtain ⟨cs, e1, e2, _⟩ := he.get hx
 rcases h3 with h0 | ⟨b, off, rfl, hc⟩
 ·omega
 ·exact ⟨b, off, cap, cs, e, e2, T.len e2, fun j u hj => by rw [Nat.add_assoc]; exact hc _ u (Qby he.len e1 hj)⟩
theorem FrX.src {c : Cx} {R : Hp} {L : List Asn} {tx e' : TypeId} {l : List α} {v : Value} {css : List (List Value)} (hk : c.P.underlying tx = some (.slice e')) (he : Els T R l css) (h : FrS R v l.length css.flatten) : Qat c R L tx T.sz v l.length css.flatten := by
 obtain ⟨q, cap, rfl, h1, h2, h3⟩ := h
 rcases h3 with h0 | ⟨b, off, rfl, hc⟩
 ·have hl : l = [] := List.eq_nil_of_length_eq_zero h0
  subst hl
  have : css = [] := List.eq_nil_of_length_eq_zero he.1
  subst this
  intro w hs
  cases q with
  | none => exact Src.ofNil w hk cap
  | some a => exact Src.ofSlice w hk a 0 cap [] (by simp) (fun j u hj => by simp at hj) (by simp)
 ·exact Qlo hk hc he.flat he.one
theorem FrozenS.frx (h : FrozenS R v l.length css.flatten) (he : Els T R l css) : FrX T R l v := ⟨css, he, h.fr⟩
theorem QdK {β : Type} {r : Rdr β} (f : β → α) (hP : ∀ c x, c.length = T.sz → r R c x → T.P R (f x) c) {ys : List β} (h : zj T.sz r R [v] ys) : FrX T R (ys.map f) v := by
 obtain ⟨q, cap, e, h1, h2, h3⟩ := h
 have e' : v = .slice q ys.length cap := by simpa using e
 rcases h3 with rfl | ⟨b, off, rfl, hc⟩
 ·exact ⟨[], Els.nil, q, cap, e', h1, h2, .inl rfl⟩
 ·obtain ⟨css, hl, hcs⟩ := Qfv (n := ys.length) (P := fun i (c : List Value) => ∃ h : i < ys.length, c.length = T.sz ∧ (∀ (j : Nat) u, c[j]? = some u → Hp.cell R ⟨b, off + i * T.sz + j, none⟩ = some u) ∧ r R c ys[i]) (fun i hi => by
   obtain ⟨c, q1, q2, q3⟩ := hc i hi
   exact ⟨c, hi, q1, q2, q3⟩)
  have hlen : ∀ c ∈ css, c.length = T.sz := fun c hc => by
   obtain ⟨i, hi, rfl⟩ := List.getElem_of_mem hc
   exact (hcs i hi).2.1
  refine ⟨css, ⟨by simp [hl], fun i x cs e1 e2 => ?_⟩, some ⟨b, off, none⟩, cap, by simpa using e', by simpa using h1, h2, .inr ⟨b, off, rfl, fun j u hj => ?_⟩⟩
  ·have hi := (List.getElem?_eq_some_iff.1 e2).1
   obtain ⟨hi', q1, q2, q3⟩ := hcs i hi
   have e3 : css[i] = cs := by rw [List.getElem?_eq_getElem hi] at e2; simpa using e2
   rw [List.getElem?_map, List.getElem?_eq_getElem hi'] at e1
   simp at e1
   rw [← e1, ← e3]
   exact hP _ _ q1 q3
  ·have hf := Qbx hlen
   have hj2 := (List.getElem?_eq_some_iff.1 hj).1
   rw [hf] at hj2
   have hpos : 0 < T.sz := by
    rcases Nat.eq_zero_or_pos T.sz with h0 | h0
    ·rw [h0] at hj2; omega
    ·exact h0
   have hdiv : j / T.sz < css.length := (Nat.div_lt_iff_lt_mul hpos).2 hj2
   have hmod : j % T.sz < T.sz := Nat.mod_lt _ hpos
   obtain ⟨hi', q1, q2, q3⟩ := hcs (j / T.sz) hdiv
   have e4 : j / T.sz * T.sz + j % T.sz = j := by rw [Nat.mul_comm]; exact Nat.div_add_mod j T.sz
   have g2 : css[j / T.sz][j % T.sz]? = some (css[j / T.sz][j % T.sz]'(by omega)) := by simp
   have := Qby (n := T.sz) hlen (List.getElem?_eq_getElem hdiv) g2
   rw [e4] at this
   rw [this] at hj
   have q4 := q2 (j % T.sz) _ g2
   rw [Nat.add_assoc, e4] at q4
   rw [q4]; exact hj
end
section
variable {c : Cx} {ops : Array Oper} {Q : Exit → Act → World → Prop} {E : Env} {R : Hp} {L M : List Asn} {rest : List Oper} {d : Option Tmp} {ty : TypeId} {p : String} {af : Array Edge} {g : Option (Nat × Bool)}
theorem QeL {x y : Operand} {t t' e : TypeId} {a : Addr} (hT : c.P.underlying t = some (.pointer e)) (hj : (c.P.info? e).isSome = true) (e1 : ev E x = some (.pointer (some a))) (e2 : ev E y = some (.pointer (some a))) :
  Yld c E R L ⟨d, .binOp .neq t x y t', ty, p, af, g⟩ (.bool false) :=
 fun _ w hf _ => by
  obtain ⟨j, hj⟩ := Option.isSome_iff_exists.1 hj
  simp [execOp, hf.ev e1, hf.ev e2, eqGuard, Lib.run_neq_ptr_same w a hT hj, Oper.quietUpon]
theorem Qau {x y : Operand} {t t' e : TypeId} {q : Option Addr} {n k : Nat} (hT : c.P.underlying t = some (.slice e)) (e1 : ev E x = some (.slice q n k)) (e2 : ev E y = some (.slice none 0 0)) :
  Yld c E R L ⟨d, .binOp .eql t x y t', ty, p, af, g⟩ (.bool q.isNone) :=
 fun _ w hf _ => by
  have r := run_equal_slice_nil (P := c.P) w t e q n k hT
  simp [execOp, hf.ev e1, hf.ev e2, eqGuard, binOp, r, Oper.quietUpon]
theorem Qdc {σ : World} {w : World} {b : Nat} {l : List Value} {e : TypeId} (f : Find (blk b l e) L M) (hs : Sat σ R L w) : w.shape? b = some (e, l.length) := by
 have := (hs.find f).blk_heap
 simp [World.shape?, this]
theorem QeI {x : Operand} {s t pt e : TypeId} {b off : Nat} {l : List Value} (hS : c.P.underlying s = some (.pointer pt)) (hT : c.P.underlying t = some .unsafePointer) (hz : (c.P.info? pt).map (fun i => decide (i.size = 0)) = some false)
  (e1 : ev E x = some (.pointer (some ⟨b, off, none⟩))) (f : Find (blk b l e) L M) (ho : off < l.length) : Yld c E R L ⟨d, .convert s t x, ty, p, af, g⟩ (.pointer (some ⟨b, off, none⟩)) :=
 fun _ w hf hs => by
  obtain ⟨j, hj, hz0⟩ := Option.map_eq_some_iff.1 hz
  have r := Lib.run_to_unsafe (P := c.P) w ⟨b, off, none⟩ hS hT hj (by simpa using hz0) (Qdc f hs) ho
  simp [execOp, hf.ev e1, r, Oper.quietUpon]
theorem Qdg {x : Operand} {s t u e : TypeId} {b off n : Nat} {l : List Value} (hS : c.P.underlying s = some .unsafePointer) (hT : c.P.underlying t = some (.pointer u)) (hj : (c.P.info? u).isSome = true)
  (e1 : ev E x = some (.pointer (some ⟨b, off, none⟩))) (f : Find (blk b l e) L M) (hn : l.length = n) (hl : liesAt c.P c.P.depth e (n / c.P.cellsOf e) off u 1 = true) : Yld c E R L ⟨d, .convert s t x, ty, p, af, g⟩ (.pointer (some ⟨b, off, none⟩)) :=
 fun _ w hf hs => by
  subst hn
  obtain ⟨j, hj⟩ := Option.isSome_iff_exists.1 hj
  have r := Lib.run_from_unsafe (P := c.P) w ⟨b, off, none⟩ hS hT hj (Qdc f hs) hl
  simp [execOp, hf.ev e1, r, Oper.quietUpon]
theorem QfU {x : Operand} {f : FuncId} {ts : Array TypeId} {fn : Func} {v : Value} (hf : c.P.funcs[f]? = some fn) (h1 : (fn.name == "runtime.NumGoroutine") = false) (h2 : fn.body.isNone = true) (h3 : Extern.findNext fn = none) (h4 : Extern.find fn = some Extern.AbiNoEscape.same)
  (e1 : ev E x = some v) : Yld c E R L ⟨d, .call { callee := .value (.func f), args := ⟨[x]⟩, argTypes := ts }, ty, p, af, g⟩ v :=
 Qh8 (vs := [v]) (by simp [evs, e1]) fun w _ => by
  rw [run_callFunc_extern hf h1 h2 h3 h4]
  rfl
theorem Qmb {x : Operand} {ts : Array TypeId} {a : Addr} {n k : Nat} (e1 : ev E x = some (.slice (some a) n k)) (hk : k ≠ 0) : Yld c E R L ⟨d, .call { callee := .builtin .unsafeSliceData, args := #[x], argTypes := ts }, ty, p, af, g⟩ (.pointer (some a)) :=
 fun _ w hf _ => by
  have r := Lib.run_unsafeSliceData_row (P := c.P) w ts ty a n k hk
  simp [execOp, resolve, invoke, builtin, hf.ev e1, r, Oper.quietUpon]
theorem QbN {d : Nat} {x y : Operand} {pt it e : TypeId} {b n cap : Nat} {bs : List UInt8} (hw : Wn c ops E ⟨some d, .call { callee := .builtin .unsafeString, args := #[x, y], argTypes := #[pt, it] }, ty, p, af, g⟩ true) (hn : Nat.blt d c.n = true)
  (hP : c.P.underlying pt = some (.pointer e)) (hC : c.P.cellsOf e = 1) (e1 : ev E x = some (.pointer (some ⟨b, 0, none⟩))) (e2 : ev E y = some (.int .i64 (n : Int))) (f : Find (slc e 1 (.slice (some ⟨b, 0, none⟩) n cap) n (XC bs)) L M) (h0 : 0 < n) (hm : n ≤ 9223372036854775807)
  (h : RJ c ops Q rest ((d, .string (str bs)) :: E) R M) : RJ c ops Q (⟨some d, .call { callee := .builtin .unsafeString, args := #[x, y], argTypes := #[pt, it] }, ty, p, af, g⟩ :: rest) E R L := by
 refine Qhc (v := .string (str bs)) (L' := M) hw rfl hn (fun a w hf hs => ?_) h
 obtain ⟨hl, hc⟩ := (hs.find f).slc_cases
 rw [Zr] at hl
 rcases hc with ⟨h1, _, _⟩ | ⟨g', cap', fz, pre, post, h1, h2, h3, h4, h5, hs2⟩
 ·cases h1
 ·simp only [Value.slice.injEq, Option.some.injEq, Addr.mk.injEq, true_and] at h1
  obtain ⟨⟨rfl, hp0, -⟩, rfl⟩ := h1
  have hpre : pre = [] := by cases pre with | nil => rfl | cons _ _ => simp at hp0
  subst hpre
  have hg := YW hs2
  have hbn : bs.length = n := by omega
  have hsh : w.shape? b = some (e, ([] ++ (XC bs ++ post)).length) := by simp [World.shape?, hg]
  have r := Lib.run_unsafeString_row (P := c.P) w pt it ty e hP hC b _ hsh bs (by rintro rfl; simp at hbn; omega) (by simp [Zr]) (by omega) (fun j u hj => by
   have hx : (XC bs)[j]? = some (.int .u8 (u.toNat : Int)) := by simp [XC, hj]
   have := row_cell (pre := []) hg hx
   rw [Yr]; simpa using this)
  rw [hbn] at r
  refine ⟨w.freeze ⟨b, 0, none⟩ n, ?_, ?_⟩
  ·simp [execOp, resolve, invoke, builtin, hf.ev e1, hf.ev e2, r]
  ·obtain ⟨lo, hi⟩ := fz
   have hput : Sat c.σ R ((fun h => h b = some (.cells ⟨[] ++ (XC bs ++ post)⟩ e (if lo == hi then (0, 0 + n) else (min lo 0, max hi (0 + n))))) :: M) (w.freeze ⟨b, 0, none⟩ n) := by
    refine Sat.put hs2 ?_ ?_ ?_ (fun k hk _ => ?_) ?_
    ·unfold World.freeze; split <;> rfl
    ·unfold World.freeze; split <;> rfl
    ·unfold World.freeze; split <;> rfl
    ·unfold World.freeze; split
     ·rfl
     ·simp only [Array.getElem?_modify]; rw [if_neg (Ne.symm hk)]
    ·unfold World.freeze; rw [if_neg (by omega)]
     simp only [Array.getElem?_modify, hg]
     simp
   exact hput.sub (.drop (.refl _))
end
theorem Sat.shrink {σ : World} {R R' : Hp} {L : List Asn} {w : World} (hR : R.le R') (s : Sat σ R' L w) : Sat σ R L w := by
 obtain ⟨g, a, b, c⟩ := s.own
 refine ⟨s.os, s.tape, s.output, fun b o h => s.ro b o (hR b o h), g, a, fun x => ?_, c⟩
 rcases b x with h | h
 ·exact .inl h
 ·refine .inr ?_
  cases hx : R x with
  | none => rfl
  | some o => rw [hR x o hx] at h; cases h
theorem Tri.q2 {P : Program} {f : FuncId} {args : List Value} {R : Hp} {L : List Asn} {v : Value} (h : Tri P f args R L (fun u _ L' => u = v ∧ L' = L)) : QTri P f args R L v :=
 fun σ F w hs => (h σ F w hs).mono fun e w' ⟨R', L', hR, hw, hp⟩ => by
  cases e with
  | returned u => obtain ⟨rfl, rfl⟩ := hp; exact ⟨rfl, hw.shrink hR⟩
  | panicked ch => exact hp.elim
  | outgrown => exact hp.elim
theorem Sub.tailApp : ∀ (M F : List Asn), Sub (M ++ F) F
 | [], F => .refl F
 | A :: M, F => .drop (Sub.tailApp M F)
theorem zA (M F : List Asn) : Sub (M ++ F) F := Sub.tailApp M F
section
variable {c : Cx} {ops : Array Oper} {Q : Exit → Act → World → Prop} {rest : List Oper} {E : Env} {R : Hp} {L : List Asn} {d : Option Tmp} {ty : TypeId} {p : String} {af : Array Edge} {g : Option (Nat × Bool)}
theorem yM {x y : Operand} {t et : TypeId} {b n : Nat} {l vs : List Value} {M : List Asn} (hT : qp c.P t n) (hn : vs.length = n)
  (hw : Wn c ops E ⟨none, .store t x y, ty, p, af, g⟩ true) (e1 : ev E x = some (.pointer (some ⟨b, 0, none⟩))) (e2 : ev E y = some (.agg ⟨vs⟩)) (hv : ∀ v ∈ vs, v.oneCell' = true)
  (f : Find (blk b l et) L M) (hl : l.length = n) (h : RJ c ops Q rest E R (blk b vs et :: M)) : RJ c ops Q (⟨none, .store t x y, ty, p, af, g⟩ :: rest) E R L :=
 Qw hT hn hw e1 e2 hv f (by omega) (by simp; omega) h
theorem QaV {x : Operand} {t et : TypeId} {b n : Nat} {vs : List Value} {M : List Asn} (hT : qp c.P t n) (hn : vs.length = n) (e : ev E x = some (.pointer (some ⟨b, 0, none⟩)))
  (f : Find (blk b vs et) L M) : Yld c E R L ⟨d, .load t x, ty, p, af, g⟩ (.agg ⟨vs⟩) :=
 QaU hT e f (by rw [List.drop_zero, List.take_of_length_le (by omega)]) hn
end
theorem cA {α : Type} {a : α} {l m : List α} : a :: l ++ m = a :: (l ++ m) := rfl
theorem nA {α : Type} {l : List α} : [] ++ l = l := rfl
section
variable {c : Cx} {ops : Array Oper} {o : Oper} {Q : Exit → Act → World → Prop} {E : Env} {R : Hp} {L M : List Asn} {rest : List Oper} {d : Option Tmp} {ty : TypeId} {p : String} {af : Array Edge} {g : Option (Nat × Bool)} {v : Value}
theorem Pa {d : Nat} (y : Yld c E R L o v) (h : RJ c ops Q rest ((d, v) :: E) R L) (hw : o.guard = none := by exact rfl) (hd : o.dst = some d := by exact rfl) (hn : Nat.blt d c.n = true := by exact rfl) : RJ c ops Q (o :: rest) E R L := rv0 hw hd hn y h
theorem Pb {d : Nat} (y : Yld c E R L o v) (h : RJ c ops Q rest ((d, v) :: E) R L) (hw : Wn c ops E o true := by exact wn1 rfl rfl rfl rfl) (hd : o.dst = some d := by exact rfl) (hn : Nat.blt d c.n = true := by exact rfl) : RJ c ops Q (o :: rest) E R L := Qhb hw hd hn y h
theorem Pk {d : Nat} (h : RJ c ops Q rest ((d, undef) :: E) R L) (hw : Wn c ops E o false := by exact wn2 rfl rfl rfl rfl rfl) (hd : o.dst = some d := by exact rfl) (hn : Nat.blt d c.n = true := by exact rfl) : RJ c ops Q (o :: rest) E R L := XG hw hd hn h
theorem Wa {l : List Oper} {K : Env → Prop} {i d : Nat} {is : List Nat} {o : Oper} (ho : yl l i = some o) (y : ∀ R', R.le R' → ∀ G, Yld c E R' (L ++ G) o v) (h : FJ c l.toArray R L K is ((d, v) :: E)) (hd : o.dst = some d := by exact rfl) (hn : Nat.blt d c.n = true := by exact rfl) (hw : Wn c l.toArray E o true := by exact wn0 rfl) : FJ c l.toArray R L K (i :: is) E := QhR ho hd hn hw y h
theorem Wb {l : List Oper} {K : Env → Prop} {i d : Nat} {is : List Nat} {o : Oper} (ho : yl l i = some o) (y : ∀ R', R.le R' → ∀ G, Yld c E R' (L ++ G) o v) (h : FJ c l.toArray R L K is ((d, v) :: E)) (hd : o.dst = some d := by exact rfl) (hn : Nat.blt d c.n = true := by exact rfl) (hw : Wn c l.toArray E o true := by exact wn1 rfl rfl rfl rfl) : FJ c l.toArray R L K (i :: is) E := QhR ho hd hn hw y h
theorem Qa {K : Act → Prop} {d : Nat} (y : Yld c E R L o v) (h : QJ c ops R L K rest ((d, v) :: E)) (hw : Wn c ops E o true := by exact wn0 rfl) (hd : o.dst = some d := by exact rfl) (hn : Nat.blt d c.n = true := by exact rfl) : QJ c ops R L K (o :: rest) E := Qho hw hd hn y h
theorem Qb {K : Act → Prop} {d : Nat} (y : Yld c E R L o v) (h : QJ c ops R L K rest ((d, v) :: E)) (hw : Wn c ops E o true := by exact wn1 rfl rfl rfl rfl) (hd : o.dst = some d := by exact rfl) (hn : Nat.blt d c.n = true := by exact rfl) : QJ c ops R L K (o :: rest) E := Qho hw hd hn y h
theorem Qk {K : Act → Prop} {d : Nat} (h : QJ c ops R L K rest ((d, undef) :: E)) (hw : Wn c ops E o false := by exact wn2 rfl rfl rfl rfl rfl) (hd : o.dst = some d := by exact rfl) (hn : Nat.blt d c.n = true := by exact rfl) : QJ c ops R L K (o :: rest) E := Qkf hw hd hn h
theorem La {x : Operand} {t et : TypeId} {b off : Nat} {l : List Value} (hT : One c.P t) (e : ev E x = some (.pointer (some ⟨b, off, none⟩)) := by exact rfl) (f : Find (blk b l et) L M := by (repeat (first|exact zH _|apply zT));done) (h : nth l off = some v := by exact rfl) : Yld c E R L ⟨d, .load t x, ty, p, af, g⟩ v := Qk9 hT e f h
theorem Ls {x : Operand} {t e' : TypeId} {j sz n : Nat} {u : Value} {xs : List Value} (hT : One c.P t) (e : ev E x = some (Zx v j) := by exact rfl) (f : Find (slc e' sz v n xs) L M := by (repeat (first|exact zH _|apply zT));done) (hu : nth xs j = some u := by exact rfl) : Yld c E R L ⟨d, .load t x, ty, p, af, g⟩ u := Xx hT e f hu
theorem Lm {x : Operand} {t et : TypeId} {b n : Nat} {vs : List Value} (hT : qp c.P t n) (hn : vs.length = n := by exact rfl) (e : ev E x = some (.pointer (some ⟨b, 0, none⟩)) := by exact rfl) (f : Find (blk b vs et) L M := by (repeat (first|exact zH _|apply zT));done) : Yld c E R L ⟨d, .load t x, ty, p, af, g⟩ (.agg ⟨vs⟩) := QaV hT hn e f
theorem Lb {x : Operand} {t et : TypeId} {b off n : Nat} {l vs : List Value} (hT : qp c.P t n) (e : ev E x = some (.pointer (some ⟨b, off, none⟩)) := by exact rfl) (f : Find (blk b l et) L M := by (repeat (first|exact zH _|apply zT));done) (hv : (l.drop off).take n = vs := by exact rfl) (hn : vs.length = n := by exact rfl) : Yld c E R L ⟨d, .load t x, ty, p, af, g⟩ (.agg ⟨vs⟩) := QaU hT e f hv hn
theorem Ga {x : Operand} {s ft : TypeId} {f b off k n : Nat} {fs : Array Field} (hS : c.P.underlying s = some (.struct fs)) (hZ : ∀ w, (sizeOf ft).run c.P w = .ok n w) (e : ev E x = some (.pointer (some ⟨b, off, none⟩)) := by exact rfl) (hF : QaJ fs f = some (ft, k) := by exact rfl) (hn : n ≠ 0 := by decide) : Yld c E R L ⟨d, .fieldAddr s x f, ty, p, af, g⟩ (.pointer (some ⟨b, off + k, none⟩)) := QaW hS hF hn hZ e
theorem Ca {f : FuncId} {xs : List Operand} {ts : Array TypeId} {vs : List Value} {pre F : List Asn} (hc : ∀ args w, (callFunc f args).run c.P w = .ok (.enter f args) w) (ht : QTri c.P f vs R pre v) (hv : evs E xs = some vs := by exact rfl) (hs : Split L pre F := by (repeat (first|exact zN _|(apply zS;focus (repeat (first|exact zH _|apply zT)))))) : Yld c E R L ⟨d, .call { callee := .value (.func f), args := ⟨xs⟩, argTypes := ts }, ty, p, af, g⟩ v := Qlb hc hv ht hs
theorem Sa {x y : Operand} {t et : TypeId} {b off : Nat} {l l' : List Value} (hT : One c.P t) (h : RJ c ops Q rest E R (blk b l' et :: M)) (hw : Wn c ops E ⟨none, .store t x y, ty, p, af, g⟩ true := by exact wn0 rfl) (e1 : ev E x = some (.pointer (some ⟨b, off, none⟩)) := by exact rfl) (e2 : ev E y = some v := by exact rfl) (hv : v.oneCell' = true := by first | rfl | assumption | (apply Qja; assumption)) (f : Find (blk b l et) L M := by (repeat (first|exact zH _|apply zT));done) (hl : Nat.blt off l.length = true := by exact rfl) (he : ZJ l off v = l' := by exact rfl) : RJ c ops Q (⟨none, .store t x y, ty, p, af, g⟩ :: rest) E R L := QdT hT hw e1 e2 hv f hl he h
theorem Sm {x y : Operand} {t et : TypeId} {b n : Nat} {l vs : List Value} (hT : qp c.P t n) (hv : ∀ v ∈ vs, v.oneCell' = true) (h : RJ c ops Q rest E R (blk b vs et :: M)) (hn : vs.length = n := by exact rfl) (hw : Wn c ops E ⟨none, .store t x y, ty, p, af, g⟩ true := by exact wn0 rfl) (e1 : ev E x = some (.pointer (some ⟨b, 0, none⟩)) := by exact rfl) (e2 : ev E y = some (.agg ⟨vs⟩) := by exact rfl) (f : Find (blk b l et) L M := by (repeat (first|exact zH _|apply zT));done) (hl : l.length = n := by exact rfl) : RJ c ops Q (⟨none, .store t x y, ty, p, af, g⟩ :: rest) E R L := yM hT hn hw e1 e2 hv f hl h
theorem Ra {d : Nat} {f : FuncId} {xs : List Operand} {ts : Array TypeId} {vs : List Value} {pre F : List Asn} {post : Value → Hp → List Asn → Prop} {pan : List PanicEntry → Hp → List Asn → Prop} (hc : ∀ args w, (callFunc f args).run c.P w = .ok (.enter f args) w) (ht : Tri c.P f vs R pre post pan) (h : ∀ v R' L', R.le R' → post v R' L' → RJ c ops Q rest ((d, v) :: E) R' (L' ++ F)) (hw : Wn c ops E ⟨some d, .call { callee := .value (.func f), args := ⟨xs⟩, argTypes := ts }, ty, p, af, g⟩ true := by exact wn0 rfl) (hn : Nat.blt d c.n = true := by exact rfl) (hv : evs E xs = some vs := by exact rfl) (hs : Split L pre F := by (repeat (first|exact zN _|(apply zS;focus (repeat (first|exact zH _|apply zT)))))) (hp : ∀ ch R' L', R.le R' → pan ch R' L' → EJ c (Q (.panic ch)) E R' (L' ++ F) := by exact fun _ _ _ _ h => h.elim) : RJ c ops Q (⟨some d, .call { callee := .value (.func f), args := ⟨xs⟩, argTypes := ts }, ty, p, af, g⟩ :: rest) E R L := XP hw hn hc hv ht hs hp h
theorem Pm {d : Nat} {x : Operand} (h : RJ c ops Q rest ((d, v) :: E) R L) (e : ev E x = some v := by exact rfl) (hn : Nat.blt d c.n = true := by exact rfl) : RJ c ops Q (⟨some d, .move x, ty, p, af, none⟩ :: rest) E R L := rv0 rfl rfl hn (Qg e) h
theorem Ps {d : Nat} {x : Operand} (h : RJ c ops Q rest ((d, v) :: E) R L) (e : ev E x = some v := by exact rfl) (hn : Nat.blt d c.n = true := by exact rfl) : RJ c ops Q (⟨some d, .assign x, ty, p, af, none⟩ :: rest) E R L := rv0 rfl rfl hn (Xl e) h
end
theorem fd_ {A : Asn} {L M : List Asn} (h : Find A L M := by (repeat (first|exact zH _|apply zT));done) : Find A L M := h
theorem sp_ {L M N : List Asn} (h : Split L M N := by (repeat (first|exact zN _|(apply zS;focus (repeat (first|exact zH _|apply zT)))))) : Split L M N := h
theorem sb_ {L M : List Asn} (h : Sub L M := by (repeat (first|exact zR _|(apply zP;focus (repeat (first|exact zH _|apply zT)))|apply zD|exact zA _ _))) : Sub L M := h
theorem le_ {R R' : Hp} (h : R.le R' := by first | exact Hp.le_refl _ | assumption | exact Hp.le_trans ‹_› ‹_›) : R.le R' := h
theorem om_ {p : Prop} (h : p := by first | omega | (dsimp only; omega) | (simp; done) | (simp; omega)) : p := h
theorem Ea {c : Cx} {E : Env} {R : Hp} {L : List Asn} {fn : Func} {R0 : Hp} {F : List Asn} {post : Value → Hp → List Asn → Prop} {pan : List PanicEntry → Hp → List Asn → Prop} {rs : List ResultVar} {vs : List Value} (hr : fn.results = ⟨rs⟩) (hv : RVs c E R L rs vs) (L' : List Asn) (hR : R0.le R) (hp : post (QF vs) R L') (hS : Sub L (L' ++ F) := by (repeat (first|exact zR _|(apply zP;focus (repeat (first|exact zH _|apply zT)))|apply zD|exact zA _ _))) : EJ c (zV c.P fn c.σ R0 F post pan .ret) E R L := XO hr hv R L' hR rfl hS hp
theorem o3 : One Tryz.prog 3 := ⟨Tryz.isAgg3, Tryz.sizeOf3⟩
theorem o4 : One Tryz.prog 4 := ⟨Tryz.isAgg4, Tryz.sizeOf4⟩
theorem o9 : One Tryz.prog 9 := ⟨Tryz.isAgg9, Tryz.sizeOf9⟩
theorem o34 : One Tryz.prog 34 := ⟨Tryz.isAgg34, Tryz.sizeOf34⟩
theorem o36 : One Tryz.prog 36 := ⟨Tryz.isAgg36, Tryz.sizeOf36⟩
theorem o39 : One Tryz.prog 39 := ⟨Tryz.isAgg39, Tryz.sizeOf39⟩
theorem o42 : One Tryz.prog 42 := ⟨Tryz.isAgg42, Tryz.sizeOf42⟩
theorem o49 : One Tryz.prog 49 := ⟨Tryz.isAgg49, Tryz.sizeOf49⟩
theorem o55 : One Tryz.prog 55 := ⟨Tryz.isAgg55, Tryz.sizeOf55⟩
theorem o56 : One Tryz.prog 56 := ⟨Tryz.isAgg56, Tryz.sizeOf56⟩
theorem o66 : One Tryz.prog 66 := ⟨Tryz.isAgg66, Tryz.sizeOf66⟩
theorem o75 : One Tryz.prog 75 := ⟨Tryz.isAgg75, Tryz.sizeOf75⟩
theorem o76 : One Tryz.prog 76 := ⟨Tryz.isAgg76, Tryz.sizeOf76⟩
theorem o81 : One Tryz.prog 81 := ⟨Tryz.isAgg81, Tryz.sizeOf81⟩
theorem o83 : One Tryz.prog 83 := ⟨Tryz.isAgg83, Tryz.sizeOf83⟩
theorem o85 : One Tryz.prog 85 := ⟨Tryz.isAgg85, Tryz.sizeOf85⟩
theorem o88 : One Tryz.prog 88 := ⟨Tryz.isAgg88, Tryz.sizeOf88⟩
theorem m93 : qp Tryz.prog 93 2 := ⟨Tryz.isAgg93, Tryz.sizeOf93⟩
theorem o98 : One Tryz.prog 98 := ⟨Tryz.isAgg98, Tryz.sizeOf98⟩
theorem zJ : One Tryz.prog 107 := ⟨Tryz.isAgg107, Tryz.sizeOf107⟩
theorem Qaj : qp Tryz.prog 111 8 := ⟨Tryz.isAgg111, Tryz.sizeOf111⟩
theorem yO : One Tryz.prog 113 := ⟨Tryz.isAgg113, Tryz.sizeOf113⟩
theorem XA : qp Tryz.prog 117 10 := ⟨Tryz.isAgg117, Tryz.sizeOf117⟩
theorem Zg : One Tryz.prog 123 := ⟨Tryz.isAgg123, Tryz.sizeOf123⟩
theorem Xj : One Tryz.prog 148 := ⟨Tryz.isAgg148, Tryz.sizeOf148⟩
theorem Qu : qp Tryz.prog 150 4 := ⟨Tryz.isAgg150, Tryz.sizeOf150⟩
theorem QmM : qp Tryz.prog 156 0 := ⟨Tryz.isAgg156, Tryz.sizeOf156⟩
theorem Qd4 : One Tryz.prog 205 := ⟨Tryz.isAgg205, Tryz.sizeOf205⟩
end V
end Go.Proofs.YtenfjpigffjgmaaGreat
set_option linter.unusedSimpArgs false
set_option linter.unusedVariables false
set_option maxRecDepth 100000
namespace Go.Proofs.YtenfjpigffjgmaaGreat
open Go.RowKit
namespace V
set_option maxHeartbeats 4000000
abbrev Ent := Int × List UInt8
structure Msg where
 kind : Int
 frm : Int
 to : Int
 term : Int
 index : Int
 logTerm : Int
 commit : Int
 ok : Bool
 es : List Ent
 state : List UInt8
deriving DecidableEq
def Msg.zero : Msg := ⟨0, 0, 0, 0, 0, 0, 0, false, [], []⟩
def Yv (e : Ent) : List Value := [.int .u64 e.1, .string (str e.2)]
def entE : Elt Ent where
 P := fun _ e cs => cs = Yv e
 sz := 2
 mono := fun _ h => h
 len := fun h => by subst h; rfl
 one := fun h u hu => by subst h; simp [Yv] at hu; rcases hu with rfl | rfl <;> rfl
def QX (m : Msg) (ve : Value) : List Value := [.int .i64 m.kind, .int .i64 m.frm, .int .i64 m.to, .int .u64 m.term, .int .u64 m.index, .int .u64 m.logTerm, .int .u64 m.commit, .bool m.ok, ve, .string (str m.state)]
def msgE : Elt Msg where
 P := fun R m cs => ∃ ve, cs = QX m ve ∧ FrX entE R m.es ve
 sz := 10
 mono := fun hR ⟨ve, h, k⟩ => ⟨ve, h, k.mono hR⟩
 len := fun ⟨ve, h, k⟩ => by subst h; rfl
 one := fun ⟨ve, h, k⟩ u hu => by subst h; simp only [QX, List.mem_cons, List.not_mem_nil, or_false] at hu; rcases hu with rfl | rfl | rfl | rfl | rfl | rfl | rfl | rfl | rfl | rfl <;> first | rfl | exact k.one
def QgA (n : Int) : Prop := -9223372036854775808 ≤ n ∧ n ≤ 9223372036854775807
def QN (n : Int) : Prop := 0 ≤ n ∧ n < 18446744073709551616
theorem Qil {α : Type} {n : Nat} {r : Rdr α} {R : Hp} {cs : List Value} {ys : List α} (h : zj n r R cs ys) : ∀ y ∈ ys, ∃ c, r R c y := by
 obtain ⟨q, cap, _, _, _, h3⟩ := h
 rcases h3 with rfl | ⟨b, off, _, hz⟩
 ·simp
 ·intro y hy
  obtain ⟨i, hi, rfl⟩ := List.getElem_of_mem hy
  obtain ⟨c, _, _, hc⟩ := hz i hi
  exact ⟨c, hc⟩
end V
end Go.Proofs.YtenfjpigffjgmaaGreat
set_option linter.unusedSimpArgs false
set_option linter.unusedVariables false
set_option maxRecDepth 100000
namespace Go.Proofs.YtenfjpigffjgmaaGreat
open Go.RowKit
namespace V
structure DK where
 b : List UInt8
 sure : Nat
 fuel : Int
 bound : Bool
 down : Bool
def DK.new : DK := ⟨[], 0, 0, false, false⟩
def DK.step (D : DK) : Bool × DK := if D.down then (false, D) else if D.bound then (if D.fuel = 0 then (false, { D with down := true }) else (true, { D with fuel := D.fuel - 1 })) else (true, D)
def DK.append (D : DK) (s : List UInt8) : Int × DK := if D.step.1 then (0, { D.step.2 with b := D.step.2.b ++ s }) else (3, D.step.2)
def DK.sync (D : DK) : Int × DK := if D.step.1 then (0, { D.step.2 with sure := D.step.2.b.length }) else (3, D.step.2)
def DK.swap (D : DK) (s : List UInt8) : Int × DK := if D.step.1 then (0, { D.step.2 with b := s, sure := s.length }) else (3, D.step.2)
def DK.setFuel (D : DK) (n : Int) : DK := { D with fuel := n, bound := decide (n ≥ 0) }
def DK.keeps (D : DK) (n : Int) : Nat := D.sure + min n.toNat (D.b.length - D.sure)
def DK.crash (D : DK) (n : Int) : DK := ⟨D.b.take (D.keeps n), D.keeps n, D.fuel, false, false⟩
def DK.ok (D : DK) (m : Nat) : Prop := D.sure ≤ D.b.length ∧ D.b.length ≤ m ∧ -9223372036854775808 ≤ D.fuel ∧ D.fuel ≤ 9223372036854775807 ∧ (D.bound = true → 0 ≤ D.fuel)
@[reducible] def dkB (b : Nat) (v : Value) (D : DK) : Asn := blk b [v, .int .i64 (D.sure : Int), .int .i64 D.fuel, .bool D.bound, .bool D.down] 125
@[reducible] def dkS (v : Value) (D : DK) : Asn := slc 5 1 v D.b.length (XC D.b)
set_option maxHeartbeats 1000000
theorem Qmq {R : Hp} : Tri Tryz.prog 47 [] R [] (fun v R' L' => R = R' ∧ ∃ b u, v = .pointer (some ⟨b, 0, none⟩) ∧ L' = [dkB b u DK.new, dkS u DK.new]) := by
 refine Qn Tryz.func47 rfl Tryz.ntmps47 rfl (fun σ F Q hret hend hpan => ?_)
 try simp only [cA, nA]
 refine Ql eN ?_
 refine Qd fun K1 hK1 => Qc ?_
 refine Ps ?_
 refine Qe (hK1 _ _ _ (Qd fun K2 hK2 => Qc ?_))
 refine Pa (QW (cells := [_, _, _, _, _]) [(0, 1), (1, 1), (2, 1), (3, 1), (4, 1)] Tryz.underlying125 Tryz.zeroValue125 (fun _ => rfl) rfl rfl) ?_
 refine Xd (wn0 rfl) rfl rfl rfl (fun b2 => ?_)
 refine YO (A := dkS (.slice none 0 0) DK.new) (Yk _ _) ?_
 refine Ps ?_
 refine Qe (hK2 _ _ _ (Qi (hret _ _ _ ?_)))
 refine Ea Tryz.results47 (.cons (Qh rfl) .nil) [dkB b2 (.slice none 0 0) DK.new, dkS (.slice none 0 0) DK.new] le_ ?_
 exact ⟨rfl, _, _, rfl, rfl⟩
theorem Qer {R : Hp} (b : Nat) (v : Value) (D : DK) : QTri Tryz.prog 85 [.pointer (some ⟨b, 0, none⟩)] R [dkB b v D] (.bool D.down) := by
 refine Tri.q ?_
 refine Qn Tryz.func85 rfl Tryz.ntmps85 rfl (fun σ F Q hret hend hpan => ?_)
 try simp only [cA, nA]
 refine Qd fun K1 hK1 => Qc ?_
 refine Ps ?_
 refine Qe (hK1 _ _ _ (Qd fun K2 hK2 => Qc ?_))
 refine Pm ?_
 refine Pa (XZ Tryz.underlying83 rfl rfl) ?_
 refine Pm ?_
 refine Pb (Qg rfl) ?_
 refine Pb (Qf rfl) ?_
 refine Pb (Ga Tryz.underlying125 Tryz.sizeOf4) ?_
 first | refine Pb (La o4) ?_ | refine Pb (Ls o4) ?_
 refine Pa (Qq rfl rfl) ?_
 refine Ps ?_
 refine Qe (hK2 _ _ _ (Qi (hret _ _ _ ?_)))
 refine Ea Tryz.results85 (.cons (Qh rfl) .nil) [dkB b v D] le_ ?_
 exact ⟨rfl, rfl, rfl⟩
theorem QdG {R : Hp} (b : Nat) (v : Value) (D : DK) (m : Nat) (hD : D.ok m) : Tri Tryz.prog 107 [.pointer (some ⟨b, 0, none⟩)] R [dkB b v D] (fun r R' L' => R = R' ∧ r = .bool D.step.1 ∧ L' = [dkB b v D.step.2]) := by
 obtain ⟨h1, h2, h3, h4, h5⟩ := hD
 refine Qn Tryz.func107 rfl Tryz.ntmps107 rfl (fun σ F Q hret hend hpan => ?_)
 try simp only [cA, nA]
 refine Qd fun K1 hK1 => Qc ?_
 refine Ps ?_
 refine Qe (hK1 _ _ _ (Qd fun K2 hK2 => Qp (Qd fun K3 hK3 => Qc ?_)))
 refine Pm ?_
 refine Pa (Ca Tryz.call85 (Qer b v D)) ?_
 refine Ps ?_
 refine Qe (hK3 _ _ _ ?_)
 refine Qm rfl (fun hc3 => ?_) (fun hc3 => ?_)
 try simp only [dT, dF, nT, nF, tF, fT] at hc3
 refine Qd fun K5 hK5 => Qc ?_
 refine Ps ?_
 refine Qe (hK5 _ _ _ (Qi (hret _ _ _ ?_)))
 apply XO Tryz.results107 (.cons (Qh rfl) .nil) _ _ le_ rfl
 case hp => rw [show D.step = (false, D) by simp [DK.step, hc3]]; exact ⟨rfl, rfl, rfl⟩
 case hS => exact sb_
 try simp only [dT, dF, nT, nF, tF, fT] at hc3
 refine Qd fun K6 hK6 => Qc ?_
 refine Pm ?_
 refine Pa (Qf rfl) ?_
 refine Pa (Ga Tryz.underlying125 Tryz.sizeOf4) ?_
 first | refine Pa (La o4) ?_ | refine Pa (Ls o4) ?_
 refine Pa (Yf rfl) ?_
 refine Ps ?_
 refine Qe (hK6 _ _ _ ?_)
 refine Qm rfl (fun hc6 => ?_) (fun hc6 => ?_)
 try simp only [dT, dF, nT, nF, tF, fT] at hc6
 refine Qd fun K8 hK8 => Qc ?_
 refine Ps ?_
 refine Qe (hK8 _ _ _ (Qi (hret _ _ _ ?_)))
 apply XO Tryz.results107 (.cons (Qh rfl) .nil) _ _ le_ rfl
 case hp => rw [show D.step = (true, D) by simp [DK.step, hc3, hc6]]; exact ⟨rfl, rfl, rfl⟩
 case hS => exact sb_
 (try simp only [dT, dF, nT, nF, tF, fT] at hc6); have hf := h5 hc6
 refine Qd fun K9 hK9 => Qc ?_
 refine Pm ?_
 refine Pa (Qf rfl) ?_
 refine Pa (Ga Tryz.underlying125 Tryz.sizeOf3) ?_
 first | refine Pa (La o3) ?_ | refine Pa (Ls o3) ?_
 refine Pa (QO rfl rfl) ?_
 refine Ps ?_
 refine Qe (hK9 _ _ _ ?_)
 refine Ql (eL 0 rfl (eL 12 rfl eN)) ?_
 refine Qm rfl (fun hc12 => ?_) (fun hc12 => ?_)
 try simp only [dT, dF, nT, nF, tF, fT] at hc12
 refine Qd fun K11 hK11 => Qc ?_
 refine Pm ?_
 refine Pa (Qf rfl) ?_
 refine Pa (Ga Tryz.underlying125 Tryz.sizeOf4) ?_
 refine Sa o4 ?_
 refine Qe (hK11 _ _ _ ?_)
 refine Ql eN ?_
 refine Qd fun K12 hK12 => Qc ?_
 refine Ps ?_
 refine Qe (hK12 _ _ _ (Qi (hret _ _ _ ?_)))
 apply XO Tryz.results107 (.cons (Qh rfl) .nil) _ _ le_ rfl
 case hp => rw [show D.step = (false, { D with down := true }) by simp [DK.step, hc3, hc6, hc12]]; exact ⟨rfl, rfl, rfl⟩
 case hS => exact sb_
 try simp only [dT, dF, nT, nF, tF, fT] at hc12
 refine Qj (hK2 _ _ _ (Qd fun K13 hK13 => Qc ?_))
 refine Pm ?_
 refine Pa (Qf rfl) ?_
 refine Pa (Ga Tryz.underlying125 Tryz.sizeOf3) ?_
 first | refine Pa (La o3) ?_ | refine Pa (Ls o3) ?_
 first | refine Pa (YH rfl rfl om_) ?_ | refine Pa (yt rfl rfl) ?_
 refine Pa (Qf rfl) ?_
 refine Pa (Ga Tryz.underlying125 Tryz.sizeOf3) ?_
 refine Sa o3 ?_
 refine Qe (hK13 _ _ _ ?_)
 refine Ql eN ?_
 refine Qd fun K14 hK14 => Qc ?_
 refine Ps ?_
 refine Qe (hK14 _ _ _ (Qi (hret _ _ _ ?_)))
 apply XO Tryz.results107 (.cons (Qh rfl) .nil) _ _ le_ rfl
 case hp => rw [show D.step = (true, { D with fuel := D.fuel - 1 }) by simp [DK.step, hc3, hc6, hc12]]; exact ⟨rfl, rfl, rfl⟩
 case hS => exact sb_
theorem DK.step_b (D : DK) : D.step.2.b = D.b ∧ D.step.2.sure = D.sure := by
 unfold DK.step; split
 ·exact ⟨rfl, rfl⟩
 ·split
  ·split <;> exact ⟨rfl, rfl⟩
  ·exact ⟨rfl, rfl⟩
theorem DK.step_ok {D : DK} {m : Nat} (h : D.ok m) : D.step.2.ok m := by
 obtain ⟨h1, h2, h3, h4, h5⟩ := h
 unfold DK.step; split
 ·exact ⟨h1, h2, h3, h4, h5⟩
 ·split
  ·have := h5 ‹_›
   split
   ·exact ⟨h1, h2, h3, h4, h5⟩
   ·exact ⟨h1, h2, by simp only; omega, by simp only; omega, fun _ => by simp only; omega⟩
  ·exact ⟨h1, h2, h3, h4, h5⟩
theorem Qjl {R : Hp} (b : Nat) (v : Value) (D : DK) (m : Nat) (hD : D.ok m) (s : List UInt8) (hm : m + s.length ≤ 1000000000) : Tri Tryz.prog 112 [.pointer (some ⟨b, 0, none⟩), .string (str s)] R [dkB b v D, dkS v D]
  (fun r R' L' => R = R' ∧ r = .int .i64 (D.append s).1 ∧ ∃ u, L' = [dkB b u (D.append s).2, dkS u (D.append s).2]) := by
 have hs := D.step_b
 obtain ⟨S, hS⟩ : ∃ S, S = D.step := ⟨_, rfl⟩
 obtain ⟨h1, h2, h3, h4, h5⟩ := DK.step_ok hD
 refine Qn Tryz.func112 rfl Tryz.ntmps112 rfl (fun σ F Q hret hend hpan => ?_)
 try simp only [cA, nA]
 refine Qd fun K1 hK1 => Qc ?_
 refine Ps ?_
 refine Qe (hK1 _ _ _ (Qd fun K2 hK2 => Qd fun K3 hK3 => Qc ?_))
 refine Pm ?_
 refine Ra Tryz.call107 (QdG b v D m hD) ?_
 rintro r R' L' hR ⟨rfl, rfl, rfl⟩
 rw [show dkS v D = dkS v D.step.2 by unfold dkS; rw [hs.1]]
 try simp only [cA, nA]
 refine Pa (Yf rfl) ?_
 refine Qe (hK3 _ _ _ ?_)
 refine Qm rfl (fun hc7 => ?_) (fun hc7 => ?_)
 try simp only [dT, dF, nT, nF, tF, fT] at hc7
 refine Qd fun K5 hK5 => Qc ?_
 refine Ps ?_
 refine Qe (hK5 _ _ _ (Qi (hret _ _ _ ?_)))
 refine Ea Tryz.results112 (.cons (Qh rfl) .nil) [dkB b v D.step.2, dkS v D.step.2] le_ ?_
 rw [show D.append s = (3, D.step.2) by simp [DK.append, hc7]]; exact ⟨rfl, rfl, _, rfl⟩
 try simp only [dT, dF, nT, nF, tF, fT] at hc7
 refine Qj (hK2 _ _ _ (Qd fun K6 hK6 => Qc ?_))
 refine Pm ?_
 refine Pm ?_
 refine Pa (Qf rfl) ?_
 refine Pa (Ga Tryz.underlying125 Tryz.sizeOf123) ?_
 first | refine Pa (La Zg) ?_ | refine Pa (Ls Zg) ?_
 refine Pm ?_
 refine XE (sz := 1) (by_ := 1) ⟨Tryz.underlying123, _, _, rfl, rfl, rfl, rfl, rfl⟩ (wn0 rfl) rfl rfl rfl fd_ (Qfk Tryz.underlying9) rfl om_ (by simp only [maxLen]; omega) (fun v14 ho14 hh14 => ?_)
 rw [jL, ← List.length_append]
 refine Pa (Qf rfl) ?_
 refine Pa (Ga Tryz.underlying125 Tryz.sizeOf123) ?_
 refine Sa Zg ?_
 refine Qe (hK6 _ _ _ ?_)
 refine Ql eN ?_
 refine Qd fun K7 hK7 => Qc ?_
 refine Ps ?_
 refine Qe (hK7 _ _ _ (Qi (hret _ _ _ ?_)))
 refine Ea Tryz.results112 (.cons (Qh rfl) .nil) [dkB b v14 { D.step.2 with b := D.step.2.b ++ s }, dkS v14 { D.step.2 with b := D.step.2.b ++ s }] le_ ?_
 rw [show D.append s = (0, { D.step.2 with b := D.step.2.b ++ s }) by simp [DK.append, hc7]]; exact ⟨rfl, rfl, _, rfl⟩
theorem Qll {R : Hp} (b : Nat) (v : Value) (D : DK) (m : Nat) (hD : D.ok m) : Tri Tryz.prog 113 [.pointer (some ⟨b, 0, none⟩)] R [dkB b v D, dkS v D]
  (fun r R' L' => R = R' ∧ r = .int .i64 D.sync.1 ∧ ∃ u, L' = [dkB b u D.sync.2, dkS u D.sync.2]) := by
 have hs := D.step_b
 refine Qn Tryz.func113 rfl Tryz.ntmps113 rfl (fun σ F Q hret hend hpan => ?_)
 try simp only [cA, nA]
 refine Qd fun K1 hK1 => Qc ?_
 refine Ps ?_
 refine Qe (hK1 _ _ _ (Qd fun K2 hK2 => Qd fun K3 hK3 => Qc ?_))
 refine Pm ?_
 refine Ra Tryz.call107 (QdG b v D m hD) ?_
 rintro r R' L' hR ⟨rfl, rfl, rfl⟩
 rw [show dkS v D = dkS v D.step.2 by unfold dkS; rw [hs.1]]
 try simp only [cA, nA]
 refine Pa (Yf rfl) ?_
 refine Qe (hK3 _ _ _ ?_)
 refine Qm rfl (fun hc5 => ?_) (fun hc5 => ?_)
 try simp only [dT, dF, nT, nF, tF, fT] at hc5
 refine Qd fun K5 hK5 => Qc ?_
 refine Ps ?_
 refine Qe (hK5 _ _ _ (Qi (hret _ _ _ ?_)))
 refine Ea Tryz.results113 (.cons (Qh rfl) .nil) [dkB b v D.step.2, dkS v D.step.2] le_ ?_
 rw [show D.sync = (3, D.step.2) by simp [DK.sync, hc5]]; exact ⟨rfl, rfl, _, rfl⟩
 try simp only [dT, dF, nT, nF, tF, fT] at hc5
 refine Qj (hK2 _ _ _ (Qd fun K6 hK6 => Qc ?_))
 refine Pm ?_
 refine Pm ?_
 refine Pa (Qf rfl) ?_
 refine Pa (Ga Tryz.underlying125 Tryz.sizeOf123) ?_
 first | refine Pa (La Zg) ?_ | refine Pa (Ls Zg) ?_
 first | refine Pa (QB Tryz.underlying123 rfl) ?_ | refine Pa (Qy Tryz.underlying123 rfl fd_) ?_
 refine Pa (Qf rfl) ?_
 refine Pa (Ga Tryz.underlying125 Tryz.sizeOf3) ?_
 refine Sa o3 ?_
 refine Qe (hK6 _ _ _ ?_)
 refine Ql eN ?_
 refine Qd fun K7 hK7 => Qc ?_
 refine Ps ?_
 refine Qe (hK7 _ _ _ (Qi (hret _ _ _ ?_)))
 refine Ea Tryz.results113 (.cons (Qh rfl) .nil) [dkB b v { D.step.2 with sure := D.step.2.b.length }, dkS v D.step.2] le_ ?_
 rw [show D.sync = (0, { D.step.2 with sure := D.step.2.b.length }) by simp [DK.sync, hc5]]; exact ⟨rfl, rfl, _, rfl⟩
theorem Qg1 {R : Hp} (b : Nat) (v : Value) (D : DK) (m : Nat) (hD : D.ok m) (s : List UInt8) (hm : s.length ≤ 1000000000) : Tri Tryz.prog 84 [.pointer (some ⟨b, 0, none⟩), .string (str s)] R [dkB b v D, dkS v D]
  (fun r R' L' => R = R' ∧ r = .int .i64 (D.swap s).1 ∧ ∃ u, L' = [dkB b u (D.swap s).2, dkS u (D.swap s).2]) := by
 have hs := D.step_b
 refine Qn Tryz.func84 rfl Tryz.ntmps84 rfl (fun σ F Q hret hend hpan => ?_)
 try simp only [cA, nA]
 refine Qd fun K1 hK1 => Qc ?_
 refine Ps ?_
 refine Qe (hK1 _ _ _ (Qd fun K2 hK2 => Qd fun K3 hK3 => Qc ?_))
 refine Pm ?_
 refine Ra Tryz.call107 (QdG b v D m hD) ?_
 rintro r R' L' hR ⟨rfl, rfl, rfl⟩
 rw [show dkS v D = dkS v D.step.2 by unfold dkS; rw [hs.1]]
 try simp only [cA, nA]
 refine Pa (Yf rfl) ?_
 refine Qe (hK3 _ _ _ ?_)
 refine Qm rfl (fun hc7 => ?_) (fun hc7 => ?_)
 try simp only [dT, dF, nT, nF, tF, fT] at hc7
 refine Qd fun K5 hK5 => Qc ?_
 refine Ps ?_
 refine Qe (hK5 _ _ _ (Qi (hret _ _ _ ?_)))
 refine Ea Tryz.results84 (.cons (Qh rfl) .nil) [dkB b v D.step.2, dkS v D.step.2] le_ ?_
 rw [show D.swap s = (3, D.step.2) by simp [DK.swap, hc7]]; exact ⟨rfl, rfl, _, rfl⟩
 try simp only [dT, dF, nT, nF, tF, fT] at hc7
 refine Qj (hK2 _ _ _ (Qd fun K6 hK6 => Qc ?_))
 refine Pm ?_
 refine Pm ?_
 refine Pm ?_
 refine Qit (wn0 rfl) rfl Tryz.underlying9 Tryz.underlying123 Tryz.underlying5 rfl (by simp only [maxLen]; omega) (fun v11 ho11 => ?_)
 refine Pm ?_
 refine Pa (Yw Tryz.underlying9 rfl) ?_
 refine Pa (Qf rfl) ?_
 refine Pa (Ga Tryz.underlying125 Tryz.sizeOf123) ?_
 refine Sa Zg ?_
 refine Pa (Qf rfl) ?_
 refine Pa (Ga Tryz.underlying125 Tryz.sizeOf3) ?_
 refine Sa o3 ?_
 refine Qe (hK6 _ _ _ ?_)
 refine Ql eN ?_
 refine Qd fun K7 hK7 => Qc ?_
 refine Ps ?_
 refine Qe (hK7 _ _ _ (Qi (hret _ _ _ ?_)))
 refine Ea Tryz.results84 (.cons (Qh rfl) .nil) [dkB b v11 { D.step.2 with b := s, sure := s.length }, dkS v11 { D.step.2 with b := s }] le_ ?_
 rw [show D.swap s = (0, { D.step.2 with b := s, sure := s.length }) by simp [DK.swap, hc7]]; exact ⟨rfl, rfl, _, rfl⟩
theorem QlD {R : Hp} (b : Nat) (v : Value) (D : DK) : QTri Tryz.prog 81 [.pointer (some ⟨b, 0, none⟩)] R [dkB b v D, dkS v D]
  (.tuple #[.string (str (if D.down then [] else D.b)), .int .i64 (if D.down then 3 else 0)]) := by
 refine Tri.q ?_
 refine Qn Tryz.func81 rfl Tryz.ntmps81 rfl (fun σ F Q hret hend hpan => ?_)
 try simp only [cA, nA]
 refine Qd fun K1 hK1 => Qc ?_
 refine Ps ?_
 refine Ps ?_
 refine Qe (hK1 _ _ _ (Qd fun K2 hK2 => Qd fun K3 hK3 => Qc ?_))
 refine Pm ?_
 refine Pa (Ca Tryz.call85 (Qer b v D)) ?_
 refine Qe (hK3 _ _ _ ?_)
 refine Qm rfl (fun hc5 => ?_) (fun hc5 => ?_)
 try simp only [dT, dF, nT, nF, tF, fT] at hc5
 refine Qd fun K5 hK5 => Qc ?_
 refine Ps ?_
 refine Ps ?_
 refine Qe (hK5 _ _ _ (Qi (hret _ _ _ ?_)))
 refine Ea Tryz.results81 (.cons (Qh rfl) (.cons (Qh rfl) .nil)) [dkB b v D, dkS v D] le_ ?_
 rw [hc5]; exact ⟨rfl, rfl, rfl⟩
 try simp only [dT, dF, nT, nF, tF, fT] at hc5
 refine Qj (hK2 _ _ _ (Qd fun K6 hK6 => Qc ?_))
 refine Pm ?_
 refine Pa (Qf rfl) ?_
 refine Pa (Ga Tryz.underlying125 Tryz.sizeOf123) ?_
 first | refine Pa (La Zg) ?_ | refine Pa (Ls Zg) ?_
 refine Pa (qG Tryz.underlying123 Tryz.underlying5 Tryz.underlying9 rfl fd_) ?_
 refine Ps ?_
 refine Ps ?_
 refine Qe (hK6 _ _ _ (Qi (hret _ _ _ ?_)))
 refine Ea Tryz.results81 (.cons (Qh rfl) (.cons (Qh rfl) .nil)) [dkB b v D, dkS v D] le_ ?_
 rw [hc5]; exact ⟨rfl, rfl, rfl⟩
theorem QjJ {R : Hp} (b : Nat) (v : Value) (D : DK) (h : D.sure ≤ D.b.length ∧ D.b.length ≤ 1000000000) : QTri Tryz.prog 55 [.pointer (some ⟨b, 0, none⟩)] R [dkB b v D, dkS v D] (.int .i64 ((D.b.length : Int) - D.sure)) := by
 refine Tri.q ?_
 refine Qn Tryz.func55 rfl Tryz.ntmps55 rfl (fun σ F Q hret hend hpan => ?_)
 try simp only [cA, nA]
 refine Qd fun K1 hK1 => Qc ?_
 refine Ps ?_
 refine Qe (hK1 _ _ _ (Qd fun K2 hK2 => Qd fun K3 hK3 => Qc ?_))
 refine Pm ?_
 refine Pa (XZ Tryz.underlying83 rfl rfl) ?_
 refine Qe (hK3 _ _ _ ?_)
 refine Qm rfl (fun hc4 => ?_) (fun hc4 => ?_)
 ·cases hc4
 try simp only [dT, dF, nT, nF, tF, fT] at hc4
 refine Qj (hK2 _ _ _ (Qd fun K5 hK5 => ?_))
 refine Xw (by kernel_rfl) (by kernel_rfl) ?_
 refine Qa (Qg rfl) ?_
 refine Qa (Qf rfl) ?_
 refine Qa (Ga Tryz.underlying125 Tryz.sizeOf123) ?_
 first | refine Qa (La Zg) ?_ | refine Qa (Ls Zg) ?_
 first | refine Qa (QB Tryz.underlying123 rfl) ?_ | refine Qa (Qy Tryz.underlying123 rfl fd_) ?_
 refine Qa (Qg rfl) ?_
 refine Qa (Qf rfl) ?_
 refine Qa (Ga Tryz.underlying125 Tryz.sizeOf3) ?_
 first | refine Qa (La o3) ?_ | refine Qa (Ls o3) ?_
 first | refine Qa (YH rfl rfl om_) ?_ | refine Qa (yt rfl rfl) ?_
 refine Qa (Xl rfl) ?_
 refine Xi ?_
 refine hK5 _ _ _ (Qi (hret _ _ _ ?_))
 refine Ea Tryz.results55 (.cons (Qh rfl) .nil) [dkB b v D, dkS v D] le_ ?_
 exact ⟨rfl, rfl, rfl⟩
theorem QiR (D : DK) (n : Int) (h : D.sure ≤ D.b.length) : (D.sure : Int) + min (max n 0) ((D.b.length : Int) - D.sure) = (D.keeps n : Nat) := by
 unfold DK.keeps; omega
theorem QkS {R : Hp} (b : Nat) (v : Value) (D : DK) (m : Nat) (hD : D.ok m) (hm : m ≤ 1000000000) (n : Int) : Tri Tryz.prog 34 [.pointer (some ⟨b, 0, none⟩), .int .i64 n] R [dkB b v D, dkS v D]
  (fun r R' L' => R = R' ∧ ∃ u, L' = [dkB b u (D.crash n), dkS u (D.crash n)]) := by
 obtain ⟨h1, h2, h3, h4, h5⟩ := hD
 have hk := QiR D n h1
 have hk2 : D.keeps n ≤ D.b.length := by unfold DK.keeps; omega
 refine Qn Tryz.func34 rfl Tryz.ntmps34 rfl (fun σ F Q hret hend hpan => ?_)
 try simp only [cA, nA]
 refine ZG (A := dkS v D) fd_ qc (fun ho => ?_)
 refine Qd fun K1 hK1 => Qd fun K2 hK2 => Qc ?_
 refine Pm ?_
 refine Pa (XZ Tryz.underlying83 rfl rfl) ?_
 refine Qe (hK2 _ _ _ ?_)
 refine Qm rfl (fun hc5 => ?_) (fun hc5 => ?_)
 ·cases hc5
 try simp only [dT, dF, nT, nF, tF, fT] at hc5
 refine Qj (hK1 _ _ _ (Qd fun K4 hK4 => ?_))
 refine jp [0, 1, 2, 3, 4, 5, 6, 7, 8, 9, 10, 11] [] [12] (by kernel_rfl) (by kernel_rfl) (by kernel_rfl) rfl ?_
 refine Wa rfl (fun R1 hR1 G => (Qg rfl)) ?_
 refine Wa rfl (fun R1 hR1 G => (Qf rfl)) ?_
 refine Wa rfl (fun R1 hR1 G => (Ga Tryz.underlying125 Tryz.sizeOf3)) ?_
 first | refine Wa rfl (fun R1 hR1 G => (La o3)) ?_ | refine Wa rfl (fun R1 hR1 G => (Ls o3)) ?_
 refine Wa rfl (fun R1 hR1 G => (Qg rfl)) ?_
 refine Wa rfl (fun R1 hR1 G => (jr rfl rfl)) ?_
 refine Wa rfl (fun R1 hR1 G => (Qg rfl)) ?_
 refine Wa rfl (fun R1 hR1 G => (Ca Tryz.call55 (QjJ b v D ⟨h1, by omega⟩))) ?_
 refine Wa rfl (fun R1 hR1 G => (Qav rfl rfl)) ?_
 refine Wa rfl (fun R1 hR1 G => (Qz rfl rfl (by omega)).to (congrArg _ hk)) ?_
 refine Wa rfl (fun R1 hR1 G => (Qf rfl)) ?_
 refine Wa rfl (fun R1 hR1 G => (Ga Tryz.underlying125 Tryz.sizeOf3)) ?_
 refine QZ ?_
 refine Xg ?_
 try simp only [cA, nA, List.append_nil]
 refine Sa o3 ?_
 refine Qe (hK4 _ _ _ (Qd fun K5 hK5 => ?_))
 refine jp [0, 1, 2, 3, 4, 5, 6, 7, 8, 9, 10, 11] [] [12] (by kernel_rfl) (by kernel_rfl) (by kernel_rfl) rfl ?_
 refine Wa rfl (fun R1 hR1 G => (Qg rfl)) ?_
 refine Wa rfl (fun R1 hR1 G => (Qg rfl)) ?_
 refine Wa rfl (fun R1 hR1 G => (Qf rfl)) ?_
 refine Wa rfl (fun R1 hR1 G => (Ga Tryz.underlying125 Tryz.sizeOf123)) ?_
 first | refine Wa rfl (fun R1 hR1 G => (La Zg)) ?_ | refine Wa rfl (fun R1 hR1 G => (Ls Zg)) ?_
 refine Wa rfl (fun R1 hR1 G => (Qg rfl)) ?_
 refine Wa rfl (fun R1 hR1 G => (Qf rfl)) ?_
 refine Wa rfl (fun R1 hR1 G => (Ga Tryz.underlying125 Tryz.sizeOf3)) ?_
 first | refine Wa rfl (fun R1 hR1 G => (La o3)) ?_ | refine Wa rfl (fun R1 hR1 G => (Ls o3)) ?_
 refine Wa rfl (fun R1 hR1 G => (QeJ Tryz.underlying123 Tryz.sizeOf5 rfl fd_ rfl ⟨_, rfl⟩ om_)) ?_
 refine Wa rfl (fun R1 hR1 G => (Qf rfl)) ?_
 refine Wa rfl (fun R1 hR1 G => (Ga Tryz.underlying125 Tryz.sizeOf123)) ?_
 refine QZ ?_
 refine Xg ?_
 try simp only [cA, nA, List.append_nil]
 refine Sa Zg ?_
 refine Qe (hK5 _ _ _ ?_)
 refine Ql (eL 0 rfl eN) ?_
 refine Qc ?_
 refine Xt (A := dkS v D) (B := dkS (zM v 0 (D.keeps n) 1) (D.crash n)) fd_ (Qj4 hk2) ?_
 refine Pm ?_
 refine Pm ?_
 refine Pa (Qf rfl) ?_
 refine Pa (Ga Tryz.underlying125 Tryz.sizeOf4) ?_
 refine Sa o4 ?_
 refine Pa (Qf rfl) ?_
 refine Pa (Ga Tryz.underlying125 Tryz.sizeOf4) ?_
 refine Sa o4 ?_
 refine Qe (hend _ _ _ ?_)
 apply QT Tryz.results34 .nil _ [dkB b (zM v 0 (D.keeps n) 1) (D.crash n), dkS (zM v 0 (D.keeps n) 1) (D.crash n)] le_ rfl
 case hp => exact ⟨rfl, _, rfl⟩
 case hS => exact sb_
end V
end Go.Proofs.YtenfjpigffjgmaaGreat
namespace Go.Proofs.YtenfjpigffjgmaaGreat
namespace V
inductive Nd
 | mk (kind : Int) (n : Nat) (s : List UInt8) (kids : List Nd)
namespace Nd
def kind : Nd → Int | mk k _ _ _ => k
def n : Nd → Nat | mk _ n _ _ => n
def s : Nd → List UInt8 | mk _ _ s _ => s
def kids : Nd → List Nd | mk _ _ _ l => l
end Nd
def ZF : Nd := .mk 0 0 [] []
def Xq (n : Nat) : List UInt8 := if n = 0 then [] else Xq (n / 256) ++ [UInt8.ofNat (n % 256)]
termination_by n
decreasing_by omega
def Xv (n : Nat) : List UInt8 := if n < 128 then [UInt8.ofNat n] else UInt8.ofNat (n % 128 + 128) :: Xv (n / 128)
termination_by n
decreasing_by omega
mutual
def wr : Nd → List UInt8
 | .mk k n s kids => if k = 0 then 110 :: (Xv (Xq n).length ++ Xq n) else if k = 1 then 115 :: (Xv s.length ++ s) else 108 :: (Xv kids.length ++ wrs kids)
def wrs : List Nd → List UInt8
 | [] => []
 | x :: l => wr x ++ wrs l
end
def Xh : Nat → Nd → Bool
 | 0, _ => false
 | d + 1, .mk k n s kids => if k = 0 then s.isEmpty && kids.isEmpty else if k = 1 then (n == 0) && kids.isEmpty else if k = 2 then (n == 0) && s.isEmpty && kids.all (Xh d) else false
def beN (l : List UInt8) : Nat := l.foldl (fun x b => x * 256 + b.toNat) 0
def szM : Nat → Nat → Nat → List UInt8 → Option (Nat × List UInt8)
 | 0, _, _, _ => none
 | _ + 1, _, _, [] => none
 | f + 1, i, acc, b :: r => if b.toNat < 128 then (if b.toNat = 0 ∧ i > 0 then none else some (acc + b.toNat * 128 ^ i, r)) else szM f (i + 1) (acc + (b.toNat - 128) * 128 ^ i) r
def rdL (f : List UInt8 → Option (Nd × List UInt8)) : Nat → List UInt8 → Option (List Nd × List UInt8)
 | 0, s => some ([], s)
 | n + 1, s => match f s with
  | none => none
  | some (x, r) => match rdL f n r with
   | none => none
   | some (l, r') => some (x :: l, r')
def rdM : Nat → List UInt8 → Option (Nd × List UInt8)
 | 0, _ => none
 | _ + 1, [] => none
 | d + 1, k :: r => match szM 4 0 0 r with
  | none => none
  | some (n, r) =>
   if k = 110 then (if n > 8 ∨ r.length < n ∨ (n > 0 ∧ r.head? = some 0) then none else some (.mk 0 (beN (r.take n)) [] [], r.drop n))
   else if k = 115 then (if r.length < n then none else some (.mk 1 0 (r.take n) [], r.drop n))
   else if k = 108 then (match rdL (rdM d) n r with
    | none => none
    | some (l, r') => some (.mk 2 0 [] l, r'))
   else none
theorem QbD (l : List UInt8) (b : UInt8) : beN (l ++ [b]) = beN l * 256 + b.toNat := by simp [beN]
theorem Yo (n : Nat) (h : n < 256) : (UInt8.ofNat n).toNat = n := by simp; omega
theorem yj {n : Nat} (h : n ≠ 0) : Xq n = Xq (n / 256) ++ [UInt8.ofNat (n % 256)] := by rw [Xq]; simp [h]
theorem ZH : Xq 0 = [] := by rw [Xq]; simp
theorem QeC (n : Nat) : beN (Xq n) = n := by
 induction n using Nat.strongRecOn with
 | _ n ih =>
  by_cases h : n = 0
  ·subst h; rw [ZH]; rfl
  ·rw [yj h, QbD, ih (n / 256) (by omega), Yo _ (by omega)]; omega
theorem Qhv (n : Nat) : (Xq n).head? ≠ some 0 := by
 induction n using Nat.strongRecOn with
 | _ n ih =>
  by_cases h : n = 0
  ·subst h; rw [ZH]; simp
  ·rw [yj h]
   by_cases h2 : n / 256 = 0
   ·rw [h2, ZH]
    simp only [List.nil_append, List.head?_cons, ne_eq, Option.some.injEq]
    intro e
    have := congrArg UInt8.toNat e
    rw [Yo _ (by omega)] at this
    simp at this; omega
   ·have := ih (n / 256) (by omega)
    cases hh : Xq (n / 256) with
    | nil =>
     have h3 := QeC (n / 256)
     rw [hh] at h3
     exact absurd h3.symm h2
    | cons x l => rw [hh] at this; simpa using this
theorem qs (k : Nat) : ∀ n, n < 256 ^ k → (Xq n).length ≤ k := by
 induction k with
 | zero => intro n h; have : n = 0 := by simpa using h
           subst this; rw [ZH]; simp
 | succ k ih =>
   intro n h
   by_cases h0 : n = 0
   · subst h0; rw [ZH]; simp
   · rw [yj h0, List.length_append]
     have := ih (n / 256) (by rw [Nat.pow_succ] at h; omega)
     simp; omega
theorem Qj3 {P : List UInt8 → Prop} (h0 : P []) (h1 : ∀ l b, P l → P (l ++ [b])) (l : List UInt8) : P l := by
 rw [← l.reverse_reverse]
 induction l.reverse with
 | nil => exact h0
 | cons x m ih => rw [List.reverse_cons]; exact h1 _ _ ih
theorem Ql4 (l : List UInt8) : beN l < 256 ^ l.length := by
 induction l using Qj3 with
 | h0 => simp [beN]
 | h1 l b ih =>
  rw [QbD, List.length_append, List.length_singleton, Nat.pow_succ]
  have := b.toNat_lt
  omega
theorem Ys {n : Nat} (h : n < 128) : Xv n = [UInt8.ofNat n] := by rw [Xv]; simp [h]
theorem qI {n : Nat} (h : ¬ n < 128) : Xv n = UInt8.ofNat (n % 128 + 128) :: Xv (n / 128) := by rw [Xv]; simp [h]
theorem QcK : ∀ (f i acc n : Nat) (r : List UInt8), n < 128 ^ (f + 1) → (i > 0 → n ≠ 0) → szM (f + 1) i acc (Xv n ++ r) = some (acc + n * 128 ^ i, r)
 | 0, i, acc, n, r, h, h0 => by
  have hn : n < 128 := by simpa using h
  rw [Ys hn]
  simp only [List.cons_append, List.nil_append, szM]
  rw [Yo _ (by omega), if_pos hn, if_neg (by rintro ⟨e, hi⟩; exact h0 hi e)]
 | f + 1, i, acc, n, r, h, h0 => by
  by_cases hn : n < 128
  ·rw [Ys hn]
   simp only [List.cons_append, List.nil_append, szM]
   rw [Yo _ (by omega), if_pos hn, if_neg (by rintro ⟨e, hi⟩; exact h0 hi e)]
  ·rw [qI hn]
   rw [List.cons_append, szM]
   rw [Yo _ (by omega), if_neg (by omega)]
   rw [QcK f (i + 1) _ (n / 128) r (by rw [Nat.pow_succ] at h; omega) (fun _ => by omega)]
   congr 2
   rw [Nat.pow_succ, Nat.add_sub_cancel, Nat.add_assoc]
   congr 1
   have : n = n % 128 + 128 * (n / 128) := by omega
   generalize hp : 128 ^ i = p
   conv => rhs; rw [this]
   rw [Nat.add_mul]
   congr 1
   rw [Nat.mul_comm p 128, ← Nat.mul_assoc, Nat.mul_comm (n / 128) 128]
theorem Qfh : ∀ (f i acc : Nat) (s : List UInt8) (n : Nat) (r : List UInt8), szM f i acc s = some (n, r) → ∃ m, n = acc + m * 128 ^ i ∧ s = Xv m ++ r ∧ m < 128 ^ f ∧ (i > 0 → m ≠ 0)
 | 0, i, acc, s, n, r, h => by cases h
 | f + 1, i, acc, [], n, r, h => by cases h
 | f + 1, i, acc, b :: s, n, r, h => by
  rw [szM] at h
  split at h
  ·rename_i hb
   split at h
   ·cases h
   ·rename_i h0
    simp only [Option.some.injEq, Prod.mk.injEq] at h
    obtain ⟨rfl, rfl⟩ := h
    refine ⟨b.toNat, rfl, by rw [Ys hb]; simp, ?_, fun hi e => h0 ⟨e, hi⟩⟩
    have : 1 ≤ 128 ^ f := Nat.one_le_pow _ _ (by omega)
    rw [Nat.pow_succ]; omega
  ·rename_i hb
   obtain ⟨m, h1, h2, h3, h4⟩ := Qfh f (i + 1) _ s n r h
   have hbl := b.toNat_lt
   have hm := h4 (by omega)
   refine ⟨(b.toNat - 128) + 128 * m, ?_, ?_, by rw [Nat.pow_succ]; omega, fun _ => by omega⟩
   ·rw [h1, Nat.pow_succ, Nat.add_assoc]
    congr 1
    generalize 128 ^ i = p
    rw [Nat.add_mul]
    congr 1
    rw [Nat.mul_comm p 128, ← Nat.mul_assoc, Nat.mul_comm m 128]
   ·rw [qI (by omega), show (b.toNat - 128 + 128 * m) % 128 + 128 = b.toNat by omega, show (b.toNat - 128 + 128 * m) / 128 = m by omega, List.cons_append, ← h2]
    simp
theorem Qbb {n : Nat} {r : List UInt8} (h : n < 268435456) : szM 4 0 0 (Xv n ++ r) = some (n, r) := by
 have := QcK 3 0 0 n r (by simpa using h) (by simp)
 simpa using this
theorem Qlk {s r : List UInt8} {n : Nat} (h : szM 4 0 0 s = some (n, r)) : s = Xv n ++ r ∧ n < 268435456 := by
 obtain ⟨m, h1, h2, h3, _⟩ := Qfh 4 0 0 s n r h
 have e : n = m := by simpa using h1
 subst e
 exact ⟨h2, by simpa using h3⟩
theorem Qbd (n : Nat) : 1 ≤ (Xv n).length := by
 by_cases h : n < 128
 ·rw [Ys h]; simp
 ·rw [qI h]; simp
theorem QgS (x : Nd) : 2 ≤ (wr x).length := by
 cases x with | mk k n s l =>
 have h1 := Qbd (Xq n).length
 have h2 := Qbd s.length
 have h3 := Qbd l.length
 rw [wr]
 split
 ·simp; omega
 ·split <;> simp <;> omega
theorem Qfa : ∀ l : List Nd, 2 * l.length ≤ (wrs l).length
 | [] => by simp
 | x :: l => by rw [wrs]; have := QgS x; have := Qfa l; simp; omega
inductive OkN : Nd → Prop
 | mk {k : Int} {n : Nat} {s : List UInt8} {l : List Nd} : n < 18446744073709551616 → (∀ x ∈ l, OkN x) → OkN (.mk k n s l)
theorem Qfo {d : Nat} (ih : ∀ (x : Nd) (rest : List UInt8), OkN x → Xh d x = true → (wr x).length < 268435456 → rdM d (wr x ++ rest) = some (x, rest)) :
  ∀ (l : List Nd) (rest : List UInt8), (∀ x ∈ l, OkN x) → l.all (Xh d) = true → (wrs l).length < 268435456 → rdL (rdM d) l.length (wrs l ++ rest) = some (l, rest)
 | [], rest, _, _, _ => by simp [wrs, rdL]
 | x :: l, rest, ho, hr, hl => by
  rw [wrs] at hl ⊢
  simp only [List.length_append] at hl
  simp only [List.all_cons, Bool.and_eq_true] at hr
  rw [List.append_assoc, List.length_cons, rdL, ih x _ (ho x (by simp)) hr.1 (by omega)]
  simp only
  rw [Qfo ih l rest (fun y hy => ho y (by simp [hy])) hr.2 (by omega)]
theorem Qmg : ∀ (d : Nat) (x : Nd) (rest : List UInt8), OkN x → Xh d x = true → (wr x).length < 268435456 → rdM d (wr x ++ rest) = some (x, rest) := by
 intro d
 induction d with
 | zero => intro x rest _ h; simp [Xh] at h
 | succ d ih =>
  intro x rest ho hr hl
  cases ho with
  | mk hn hk =>
  rename_i k n s l
  simp only [Xh] at hr
  rw [wr] at hl ⊢
  by_cases h0 : k = 0
  ·subst h0
   simp only [if_true] at hr hl ⊢
   simp only [Bool.and_eq_true, List.isEmpty_iff] at hr
   obtain ⟨rfl, rfl⟩ := hr
   simp only [List.length_cons, List.length_append] at hl
   rw [List.cons_append, List.append_assoc, rdM, Qbb (by omega)]
   have h8 : (Xq n).length ≤ 8 := qs 8 n (by omega)
   simp only [if_true]
   rw [if_neg (by
    rintro (h | h | h)
    ·omega
    ·simp at h; omega
    ·have := Qhv n
     cases hb : Xq n with
     | nil => rw [hb] at h; simp at h
     | cons b l => rw [hb] at h this; simp at h this; exact this h)]
   simp [QeC]
  ·by_cases h1 : k = 1
   ·subst h1
    simp only [h0, if_false, if_true] at hr hl ⊢
    simp only [Bool.and_eq_true, List.isEmpty_iff, beq_iff_eq] at hr
    obtain ⟨rfl, rfl⟩ := hr
    simp only [List.length_cons, List.length_append] at hl
    rw [List.cons_append, List.append_assoc, rdM, Qbb (by omega)]
    simp
   ·by_cases h2 : k = 2
    ·subst h2
     simp only [h0, h1, if_false, if_true] at hr hl ⊢
     simp only [Bool.and_eq_true, List.isEmpty_iff, beq_iff_eq] at hr
     obtain ⟨⟨rfl, rfl⟩, hr⟩ := hr
     simp only [List.length_cons, List.length_append] at hl
     have := Qfa l
     rw [List.cons_append, List.append_assoc, rdM, Qbb (by omega)]
     simp only
     rw [if_neg (by decide), if_neg (by decide), if_pos trivial, Qfo ih l rest hk hr (by omega)]
    ·simp [h0, h1, h2] at hr
mutual
def ZA : Nd → Nat
 | .mk _ _ _ l => Ze l + 1
def Ze : List Nd → Nat
 | [] => 0
 | x :: l => max (ZA x) (Ze l)
end
mutual
def Yc : Nd → Bool
 | .mk k n s l => if k = 0 then s.isEmpty && l.isEmpty else if k = 1 then (n == 0) && l.isEmpty else if k = 2 then (n == 0) && s.isEmpty && qY l else false
def qY : List Nd → Bool
 | [] => true
 | x :: l => Yc x && qY l
end
theorem deepL_le {d : Nat} : ∀ {l : List Nd}, Ze l ≤ d ↔ ∀ x ∈ l, ZA x ≤ d
 | [] => by simp [Ze]
 | x :: l => by rw [Ze, Nat.max_le, deepL_le (l := l)]; simp
theorem plainL_iff : ∀ {l : List Nd}, qY l = true ↔ ∀ x ∈ l, Yc x = true
 | [] => by simp [qY]
 | x :: l => by rw [qY, Bool.and_eq_true, plainL_iff (l := l)]; simp
theorem QgL {l : List Nd} {i : Nat} {x : Nd} (hx : l[i]? = some x) : Ze (l.take (i + 1)) = max (Ze (l.take i)) (ZA x) := by
 have key : ∀ (m : List Nd), Ze (m ++ [x]) = max (Ze m) (ZA x) := by
  intro m
  induction m with
  | nil => simp [Ze]
  | cons y m ih => rw [List.cons_append, Ze, ih, Ze, Nat.max_assoc]
 rw [List.take_add_one, hx]; exact key _
theorem QhW (x : Nd) : 1 ≤ ZA x := by cases x; rw [ZA]; omega
theorem QaZ : ∀ (d : Nat) (x : Nd), Xh d x = (decide (ZA x ≤ d) && Yc x) := by
 intro d
 induction d with
 | zero => intro x; have := QhW x; simp [Xh]; omega
 | succ d ih =>
  intro x
  cases x with | mk k n s l =>
  rw [Xh, Yc, ZA]
  have hd : (decide (Ze l + 1 ≤ d + 1)) = decide (Ze l ≤ d) := by simp
  rw [hd]
  by_cases h0 : k = 0
  ·subst h0; simp
   cases l with
   | nil => simp [Ze]
   | cons => simp
  ·by_cases h1 : k = 1
   ·subst h1; simp
    cases l with
    | nil => simp [Ze]
    | cons => simp
   ·by_cases h2 : k = 2
    ·subst h2
     simp only [h0, h1, if_false, if_true]
     have : l.all (Xh d) = (decide (Ze l ≤ d) && qY l) := by
      rw [Bool.eq_iff_iff, List.all_eq_true, Bool.and_eq_true, decide_eq_true_eq, deepL_le, plainL_iff]
      simp only [ih, Bool.and_eq_true, decide_eq_true_eq]
      exact ⟨fun h => ⟨fun x hx => (h x hx).1, fun x hx => (h x hx).2⟩, fun h x hx => ⟨h.1 x hx, h.2 x hx⟩⟩
     rw [this]
     cases (n == 0 && s.isEmpty) <;> simp
    ·simp [h0, h1, h2]
def YE (n : Nat) : Nat := if n = 0 then 0 else YE (n / 2) + 1
termination_by n
decreasing_by omega
theorem qv : YE 0 = 0 := by rw [YE]; simp
theorem yZ {n : Nat} (h : n ≠ 0) : YE n = YE (n / 2) + 1 := by rw [YE]; simp [h]
theorem ZZ : ∀ (k n : Nat), 2 ^ k ≤ n → YE n = k + YE (n / 2 ^ k)
 | 0, n, _ => by simp
 | k + 1, n, h => by
  rw [Nat.pow_succ] at h
  have hp : 1 ≤ 2 ^ k := Nat.one_le_two_pow
  rw [yZ (by omega), ZZ k (n / 2) (by omega), Nat.div_div_eq_div_mul, Nat.pow_succ, Nat.mul_comm 2]
  omega
theorem zC : ∀ (k n : Nat), n < 2 ^ k → YE n ≤ k
 | 0, n, h => by have : n = 0 := by simpa using h
                 subst this; rw [qv]; exact Nat.le_refl _
 | k + 1, n, h => by
   by_cases h0 : n = 0
   · subst h0; rw [qv]; omega
   · rw [yZ h0]
     have := zC k (n / 2) (by rw [Nat.pow_succ] at h; omega)
     omega
theorem Qhw (n : Nat) : (Xq n).length = (YE n + 7) / 8 := by
 induction n using Nat.strongRecOn with
 | _ n ih =>
  by_cases h0 : n = 0
  ·subst h0; rw [ZH, qv]; rfl
  ·rw [yj h0, List.length_append, ih (n / 256) (by omega)]
   by_cases h1 : n < 256
   ·have h2 : n / 256 = 0 := by omega
    have h3 := zC 8 n (by simpa using h1)
    have h4 : 1 ≤ YE n := by rw [yZ h0]; omega
    rw [h2, qv]; simp; omega
   ·have := ZZ 8 n (by simp; omega)
    simp at this
    simp; omega
theorem QiI (n : Nat) : ∀ i, i < (Xq n).length → (Xq n)[i]? = some (UInt8.ofNat (n / 256 ^ ((Xq n).length - 1 - i) % 256)) := by
 induction n using Nat.strongRecOn with
 | _ n ih =>
  intro i hi
  by_cases h0 : n = 0
  ·subst h0; rw [ZH] at hi; simp at hi
  ·rw [yj h0] at hi ⊢
   simp only [List.length_append, List.length_singleton] at hi ⊢
   rcases Nat.lt_or_ge i (Xq (n / 256)).length with h | h
   ·rw [List.getElem?_append_left h, ih (n / 256) (by omega) i h]
    congr 3
    rw [Nat.div_div_eq_div_mul, show (Xq (n / 256)).length + 1 - 1 - i = ((Xq (n / 256)).length - 1 - i) + 1 by omega, Nat.pow_succ, Nat.mul_comm]
   ·have : i = (Xq (n / 256)).length := by omega
    subst this
    rw [List.getElem?_append_right (Nat.le_refl _)]
    simp
theorem YX : ∀ (k n : Nat), n < 128 ^ (k + 1) → (Xv n).length ≤ k + 1
 | 0, n, h => by rw [Ys (by simpa using h)]; simp
 | k + 1, n, h => by
  by_cases hn : n < 128
  ·rw [Ys hn]; simp
  ·rw [qI hn, List.length_cons]
   have := YX k (n / 128) (by rw [Nat.pow_succ] at h; omega)
   omega
end V
end Go.Proofs.YtenfjpigffjgmaaGreat
