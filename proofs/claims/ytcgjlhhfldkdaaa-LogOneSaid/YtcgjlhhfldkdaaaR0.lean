/- What came in: how arguments read, as plain lists; a law's call out of a contract. -/
import Derived.Test.YtcgjlhhfldkdaaaV6
import Derived.ProofKit
import Derived.ChangeOld
import Derived.Below
import Derived.OpenShut
set_option linter.unusedSimpArgs false
set_option linter.unusedVariables false
namespace Go.Proofs.Ytcgjlhhfldkdaaa
open Go.RowKit
namespace V
/-- all that was there -/
def oldH (W : World) : Hp := fun b => W.heap[b]?
theorem oldH_cell (W : World) (a : Addr) : Hp.cell (oldH W) a = W.cell? a := rfl
theorem cell_mono {R R' : Hp} (h : R.le R') {a : Addr} {v : Value} (e : Hp.cell R a = some v) : Hp.cell R' a = some v := by
  unfold Hp.cell at *
  cases hb : R a.block with
  | none => rw [hb] at e; cases e
  | some o => rw [hb] at e; rw [h _ _ hb]; exact e
theorem sat_start (W : World) : Sat W (oldH W) [] W := ⟨rfl, rfl, rfl, fun _ _ h => h, Hp.emp, fun _ _ h => (by cases h), fun _ => .inl rfl, trivial⟩
theorem Sat.below {W w' : World} {R : Hp} {L : List Asn} (s : Sat W R L w') (h : (oldH W).le R) : Below W.heap.size W w' := by
  have hk : ∀ k, k < W.heap.size → w'.heap[k]? = W.heap[k]? := fun k hk => by
    have e : (oldH W) k = some W.heap[k] := by simp [oldH, hk]
    rw [s.ro _ _ (h _ _ e)]; simp [hk]
  refine ⟨s.os, s.tape, s.output, ?_, hk⟩
  rcases Nat.eq_zero_or_pos W.heap.size with h0 | h0
  · omega
  · have := hk (W.heap.size - 1) (by omega)
    have e : W.heap[W.heap.size - 1]? = some (W.heap[W.heap.size - 1]'(by omega)) := Array.getElem?_eq_getElem (by omega)
    rw [e] at this
    obtain ⟨hh, _⟩ := Array.getElem?_eq_some_iff.1 this
    omega
/-- a law out of its contract -/
theorem law_calls {P : Program} {f : FuncId} {args : List Value} {W : World} (h : Tri P f args (oldH W) [] (fun v _ _ => v = .bool true)) :
    Calls P f ⟨args⟩ W fun e w' => e = .returned (.bool true) ∧ Below W.heap.size W w' :=
  (h W [] W (sat_start W)).mono fun e w' ⟨R', L', hR, hs, hp⟩ => by
    cases e with
    | returned v => exact ⟨by rw [hp], hs.below hR⟩
    | panicked ch => exact hp.elim
    | outgrown => exact hp.elim

/-! ### readers -/
/-- how cells read as plain data -/
def Rdr (α : Type) := Hp → List Value → α → Prop
def intR (k : IntKind) : Rdr Int := fun _ cs x => cs = [.int k x] ∧ k.min ≤ x ∧ x ≤ k.max
def boolR : Rdr Bool := fun _ cs x => cs = [.bool x]
def strR : Rdr (List UInt8) := fun _ cs x => cs = [.string (str x)] ∧ x.length ≤ maxLen
def slcR {α : Type} (n : Nat) (r : Rdr α) : Rdr (List α) := fun R cs xs => ∃ q cap, cs = [.slice q xs.length cap] ∧ xs.length ≤ cap ∧ cap ≤ maxLen ∧
  (xs = [] ∨ ∃ b off, q = some ⟨b, off, none⟩ ∧ ∀ (i : Nat) (h : i < xs.length), ∃ c : List Value, c.length = n ∧ (∀ j u, c[j]? = some u → Hp.cell R ⟨b, off + i * n + j, none⟩ = some u) ∧ r R c xs[i])
def pairR {α β : Type} (n : Nat) (r : Rdr α) (s : Rdr β) : Rdr (α × β) := fun R cs x => r R (cs.take n) x.1 ∧ s R (cs.drop n) x.2
def arrR {α : Type} (len n : Nat) (r : Rdr α) : Rdr (List α) := fun R cs xs => cs.length = len * n ∧ xs.length = len ∧ ∀ (i : Nat) (h : i < xs.length), r R ((cs.drop (i * n)).take n) xs[i]

/-- a type reads so -/
def Reads {H : Type} (enc : TypeId × Value → H) (P : Program) {α : Type} (t : TypeId) (r : Rdr α) : Prop :=
  ∀ (W : World) (fuel : Nat) (cs : List Value) (x : DataW H × List MemPlace), DataW.trod enc P W 0 (fun _ => true) true fuel t cs = some x → ∃ y, r (oldH W) cs y
theorem list_of {α : Type} {n : Nat} {P : Nat → α → Prop} (h : ∀ i, i < n → ∃ x, P i x) : ∃ xs : List α, xs.length = n ∧ ∀ (i : Nat) (hi : i < xs.length), P i xs[i] := by
  induction n with
  | zero => exact ⟨[], rfl, fun i hi => absurd hi (by simp)⟩
  | succ n ih =>
    obtain ⟨xs, hl, hx⟩ := ih fun i hi => h i (by omega)
    obtain ⟨x, hx'⟩ := h n (by omega)
    refine ⟨xs ++ [x], by simp [hl], fun i hi => ?_⟩
    rcases Nat.lt_or_ge i xs.length with k | k
    · rw [List.getElem_append_left k]; exact hx i k
    · have : i = xs.length := by simp at hi; omega
      subst this
      simpa [hl] using hx'
section
variable {H : Type} {enc : TypeId × Value → H} {P : Program}
theorem wf_bd {k : IntKind} {n : Int} (h : (Lit.int k n).wf = true) : k.min ≤ n ∧ n ≤ k.max := by
  simpa [Lit.wf] using h
theorem reads_int {t : TypeId} {k : IntKind} (hT : P.underlying t = some (.int k)) : Reads enc P t (intR k) := fun W fuel cs x h => by
  obtain ⟨n, e1, _, e3⟩ := DataW.trod_int hT h
  exact ⟨n, e1, wf_bd e3⟩
theorem reads_bool {t : TypeId} (hT : P.underlying t = some .bool) : Reads enc P t boolR := fun W fuel cs x h => by
  obtain ⟨n, e1, _⟩ := DataW.trod_bool hT h
  exact ⟨n, e1⟩
theorem reads_str {t : TypeId} (hT : P.underlying t = some .string) : Reads enc P t strR := fun W fuel cs x h => by
  obtain ⟨s, e1, _, e3⟩ := DataW.trod_string hT h
  exact ⟨s.data.toList, by rw [e1, ← str_of], by simpa using e3⟩
theorem reads_slc {α : Type} {t e : TypeId} {n : Nat} {r : Rdr α} (hT : P.underlying t = some (.slice e)) (hc : P.cellsOf e = n) (hn : 0 < n) (hr : Reads enc P e r) : Reads enc P t (slcR n r) := fun W fuel cs x h => by
  rcases DataW.trod_slice hT h with ⟨rfl, _⟩ | ⟨a, len, cap, elems, rest, m, rfl, rfl, _, _, hlc, hcm, hel, hx, _⟩
  · exact ⟨[], none, 0, rfl, by simp, by simp [maxLen], .inl rfl⟩
  · rw [hc] at hx
    have key : ∀ i, i < len → ∃ y : α, ∃ c : List Value, c.length = n ∧ (∀ j u, c[j]? = some u → W.cell? ((a.add (i * n)).add j) = some u) ∧ r (oldH W) c y := fun i hi => by
      have h1 := hx i hi
      obtain ⟨y, hy⟩ : ∃ y, elems[i]? = some y := ⟨elems[i], by simp [hel, hi]⟩
      rw [hy, Option.bind_eq_some_iff] at h1
      obtain ⟨c, hc1, hc2⟩ := h1
      obtain ⟨z, hz⟩ := hr W m c y hc2
      have hcs := World.cells?_some hc1
      exact ⟨z, c, hcs.2.1, fun j u hj => by
        have hjn : j < n := by rw [← hcs.2.1]; exact (List.getElem?_eq_some_iff.1 hj).1
        rw [hcs.2.2 j hjn]; exact hj, hz⟩
    obtain ⟨ys, hl, hy⟩ := list_of key
    refine ⟨ys, some a, cap, by rw [hl], by omega, hcm, ?_⟩
    cases ys with
    | nil => exact .inl rfl
    | cons y0 ys =>
      refine .inr ?_
      obtain ⟨c, hc1, hc2, _⟩ := hy 0 (by simp)
      have hs : a.spot = none := by
        have h0 := hc2 0 (c[0]'(by omega)) (by simp)
        have e0 : (a.add (0 * n)).add 0 = a := by simp [Addr.add]
        rw [e0] at h0
        cases hsp : a.spot with
        | none => rfl
        | some q =>
          unfold World.cell? at h0
          split at h0
          · rw [hsp] at h0; simp at h0
          · cases h0
      obtain ⟨b, off, sp⟩ := a
      simp only at hs
      subst hs
      refine ⟨b, off, rfl, fun i hi => ?_⟩
      obtain ⟨c, h1, h2, h3⟩ := hy i hi
      exact ⟨c, h1, fun j u hj => by have := h2 j u hj; rw [add_mk, add_mk] at this; exact this, h3⟩
theorem reads_arr {α : Type} {t e : TypeId} {len n : Nat} {r : Rdr α} (hT : P.underlying t = some (.array len e)) (hc : P.cellsOf e = n) (hct : P.cellsOf t = len * n) (hr : Reads enc P e r) : Reads enc P t (arrR len n r) := fun W fuel cs x h => by
  obtain ⟨xs, m, rfl, _, hcl, hxl, hx⟩ := DataW.trod_array hT h
  rw [hc] at hx
  obtain ⟨ys, hl, hy⟩ := list_of (n := len) (P := fun i y => r (oldH W) ((cs.drop (i * n)).take n) y) fun i hi => by
    have h1 := hx i hi
    obtain ⟨y, hy⟩ : ∃ y, xs[i]? = some y := ⟨xs[i], by simp [hxl, hi]⟩
    rw [hy] at h1
    exact hr W m _ y h1
  exact ⟨ys, by rw [hcl, hct], hl, hy⟩
/-- a struct's fields, from an offset on -/
def ReadsF (enc : TypeId × Value → H) (P : Program) {α : Type} (fs : List Field) (off : Nat) (r : Rdr α) : Prop :=
  ∀ (W : World) (m : Nat) (cs : List Value), (∀ f ∈ fs, ∃ x, DataW.trod enc P W 0 (fun _ => true) true m f.type ((cs.drop f.offset).take (P.cellsOf f.type)) = some x) → cs.length = off + (fs.map fun f => P.cellsOf f.type).sum →
    ∃ y, r (oldH W) (cs.drop off) y
theorem readsF_one {α : Type} {f : Field} {off : Nat} {r : Rdr α} (ho : f.offset = off) (hr : Reads enc P f.type r) : ReadsF enc P [f] off r := fun W m cs h hl => by
  obtain ⟨x, hx⟩ := h f (by simp)
  rw [ho, List.take_of_length_le (by simp at hl ⊢; omega)] at hx
  exact hr W m _ x hx
theorem readsF_cons {α β : Type} {f : Field} {fs : List Field} {off n : Nat} {r : Rdr α} {s : Rdr β} (ho : f.offset = off) (hn : P.cellsOf f.type = n) (hr : Reads enc P f.type r) (hs : ReadsF enc P fs (off + n) s) :
    ReadsF enc P (f :: fs) off (pairR n r s) := fun W m cs h hl => by
  obtain ⟨x, hx⟩ := h f (by simp)
  rw [ho, hn] at hx
  obtain ⟨y, hy⟩ := hr W m _ x hx
  obtain ⟨z, hz⟩ := hs W m cs (fun g hg => h g (by simp [hg])) (by simp [hn] at hl ⊢; omega)
  exact ⟨(y, z), hy, by rw [List.drop_drop]; exact hz⟩
theorem reads_struct {α : Type} {t : TypeId} {fs : List Field} {r : Rdr α} (hT : P.underlying t = some (.struct ⟨fs⟩)) (hl : P.cellsOf t = (fs.map fun f => P.cellsOf f.type).sum) (hr : ReadsF enc P fs 0 r) : Reads enc P t r := fun W fuel cs x h => by
  obtain ⟨xs, m, rfl, _, hcl, hxl, hx⟩ := DataW.trod_struct hT h
  have := hr W m cs (fun f hf => by
    obtain ⟨i, hi, rfl⟩ := List.getElem_of_mem hf
    have h1 := hx i fs[i] (by simp [hi])
    rw [h1]
    exact ⟨xs[i]'(by rw [hxl]; simpa using hi), by simp [hxl, hi]⟩) (by rw [hcl, hl]; simp)
  simpa using this
end
end V
end Go.Proofs.Ytcgjlhhfldkdaaa
