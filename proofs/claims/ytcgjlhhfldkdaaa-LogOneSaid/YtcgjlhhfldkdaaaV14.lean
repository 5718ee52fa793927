/- Rows of things, each of so many cells: plain lists and their cells, in memory that no longer changes or in slices of our own. -/
import Derived.Test.YtcgjlhhfldkdaaaV13
import Derived.Test.YtcgjlhhfldkdaaaR0
set_option linter.unusedSimpArgs false
set_option linter.unusedVariables false
namespace Go.Proofs.Ytcgjlhhfldkdaaa
open Go.RowKit
namespace V
/-- how a thing stands in its cells -/
structure Elt (α : Type) where
  P : Hp → α → List Value → Prop
  sz : Nat
  mono : ∀ {R R' : Hp} {x : α} {cs : List Value}, R.le R' → P R x cs → P R' x cs
  len : ∀ {R : Hp} {x : α} {cs : List Value}, P R x cs → cs.length = sz
  one : ∀ {R : Hp} {x : α} {cs : List Value}, P R x cs → ∀ u ∈ cs, u.oneCell' = true
section
variable {α : Type} (T : Elt α) {R R' : Hp} {l : List α} {css : List (List Value)} {v : Value}
def Els (R : Hp) (l : List α) (css : List (List Value)) : Prop := css.length = l.length ∧ ∀ (i : Nat) (x : α) (cs : List Value), l[i]? = some x → css[i]? = some cs → T.P R x cs
def FrS (R : Hp) (v : Value) (n : Nat) (xs : List Value) : Prop := ∃ q cap, v = .slice q n cap ∧ n ≤ cap ∧ cap ≤ maxLen ∧ (n = 0 ∨ ∃ b off, q = some ⟨b, off, none⟩ ∧ ∀ (j : Nat) (u : Value), xs[j]? = some u → Hp.cell R ⟨b, off + j, none⟩ = some u)
def FrX (R : Hp) (l : List α) (v : Value) : Prop := ∃ css, Els T R l css ∧ FrS R v l.length css.flatten
variable {T}
theorem FrS.mono {n : Nat} {xs : List Value} (hR : R.le R') (h : FrS R v n xs) : FrS R' v n xs := by
  obtain ⟨q, cap, e, h1, h2, h3⟩ := h
  refine ⟨q, cap, e, h1, h2, ?_⟩
  rcases h3 with h | ⟨b, off, hq, hc⟩
  · exact .inl h
  · exact .inr ⟨b, off, hq, fun j u hj => cell_mono hR (hc j u hj)⟩
theorem FrozenS.fr {n : Nat} {xs : List Value} (h : FrozenS R v n xs) : FrS R v n xs := by
  rcases h with ⟨rfl, rfl⟩ | ⟨b, off, cap, rfl, h1, h2, h3⟩
  · exact ⟨none, 0, rfl, Nat.le_refl _, by simp [maxLen], .inl rfl⟩
  · exact ⟨_, cap, rfl, h1, h2, .inr ⟨b, off, rfl, h3⟩⟩
theorem Els.mono (hR : R.le R') (h : Els T R l css) : Els T R' l css := ⟨h.1, fun i x cs h1 h2 => T.mono hR (h.2 i x cs h1 h2)⟩
theorem FrX.mono (hR : R.le R') (h : FrX T R l v) : FrX T R' l v := by
  obtain ⟨css, h1, h2⟩ := h
  exact ⟨css, h1.mono hR, h2.mono hR⟩
theorem Els.nil : Els T R [] [] := ⟨rfl, fun i x cs h _ => by simp at h⟩
theorem FrX.nil : FrX T R [] (.slice none 0 0) := ⟨[], Els.nil, none, 0, rfl, Nat.le_refl _, by simp [maxLen], .inl rfl⟩
theorem Els.len (h : Els T R l css) : ∀ c ∈ css, c.length = T.sz := fun c hc => by
  obtain ⟨i, hi, rfl⟩ := List.getElem_of_mem hc
  exact T.len (h.2 i (l[i]'(by rw [← h.1]; exact hi)) _ (by simp) (by simp [hi]))
theorem Els.one (h : Els T R l css) : ∀ u ∈ css.flatten, u.oneCell' = true := fun u hu => by
  obtain ⟨c, hc, hu⟩ := List.mem_flatten.1 hu
  obtain ⟨i, hi, rfl⟩ := List.getElem_of_mem hc
  exact T.one (h.2 i (l[i]'(by rw [← h.1]; exact hi)) _ (by simp) (by simp [hi])) u hu
theorem flen {n : Nat} : ∀ {css : List (List Value)}, (∀ c ∈ css, c.length = n) → css.flatten.length = css.length * n
  | [], _ => by simp
  | c :: css, h => by rw [List.flatten_cons, List.length_append, flen (fun x hx => h x (by simp [hx])), h c (by simp), List.length_cons, Nat.add_mul]; omega
theorem fget {n : Nat} : ∀ {css : List (List Value)} {i : Nat} {cs : List Value} {j : Nat} {u : Value}, (∀ c ∈ css, c.length = n) → css[i]? = some cs → cs[j]? = some u → css.flatten[i * n + j]? = some u
  | [], i, cs, j, u, _, h, _ => by simp at h
  | c :: css, 0, cs, j, u, h4, h, hj => by
    simp at h; subst h
    have := (List.getElem?_eq_some_iff.1 hj).1
    simp only [List.flatten_cons, Nat.zero_mul, Nat.zero_add]
    rw [List.getElem?_append_left this, hj]
  | c :: css, i + 1, cs, j, u, h4, h, hj => by
    have hc := h4 c (by simp)
    simp only [List.flatten_cons]
    rw [List.getElem?_append_right (by rw [Nat.add_mul]; omega), hc, show (i + 1) * n + j - n = i * n + j by rw [Nat.add_mul]; omega]
    exact fget (fun x hx => h4 x (by simp [hx])) (by simpa using h) hj
theorem fpart {n : Nat} {css : List (List Value)} {i : Nat} {cs : List Value} (h4 : ∀ c ∈ css, c.length = n) (h : css[i]? = some cs) : (css.flatten.drop (i * n)).take n = cs := by
  have hl := h4 cs (List.mem_of_getElem? h)
  have hi := (List.getElem?_eq_some_iff.1 h).1
  have hf := flen h4
  have hmul : (i + 1) * n ≤ css.length * n := Nat.mul_le_mul_right _ hi
  rw [Nat.add_mul] at hmul
  apply List.ext_getElem?
  intro j
  rw [List.getElem?_take]
  split
  · rename_i hj
    rw [List.getElem?_drop]
    have e : cs[j]? = some (cs[j]'(by omega)) := by simp
    rw [e, fget h4 h e]
  · rename_i hj
    rw [List.getElem?_eq_none (by omega)]
theorem ftake {n : Nat} : ∀ {css : List (List Value)} (i : Nat), (∀ c ∈ css, c.length = n) → css.flatten.take (i * n) = (css.take i).flatten
  | [], i, _ => by simp
  | c :: css, 0, _ => by simp
  | c :: css, i + 1, h => by
    have hc := h c (by simp)
    rw [List.flatten_cons, List.take_append, hc, List.take_of_length_le (by rw [hc, Nat.add_mul]; omega), show (i + 1) * n - n = i * n by rw [Nat.add_mul]; omega, ftake i (fun x hx => h x (by simp [hx]))]
    simp
theorem fdrop {n : Nat} : ∀ {css : List (List Value)} (i : Nat), (∀ c ∈ css, c.length = n) → css.flatten.drop (i * n) = (css.drop i).flatten
  | [], i, _ => by simp
  | c :: css, 0, _ => by simp
  | c :: css, i + 1, h => by
    have hc := h c (by simp)
    rw [List.flatten_cons, List.drop_append, hc, List.drop_of_length_le (by rw [hc, Nat.add_mul]; omega), show (i + 1) * n - n = i * n by rw [Nat.add_mul]; omega, fdrop i (fun x hx => h x (by simp [hx]))]
    simp
theorem Els.flat (h : Els T R l css) : css.flatten.length = l.length * T.sz := by rw [flen h.len, h.1]
theorem Els.get (h : Els T R l css) {i : Nat} {x : α} (hx : l[i]? = some x) : ∃ cs, css[i]? = some cs ∧ T.P R x cs ∧ (css.flatten.drop (i * T.sz)).take T.sz = cs := by
  have hi := (List.getElem?_eq_some_iff.1 hx).1
  have e : css[i]? = some (css[i]'(by rw [h.1]; exact hi)) := by simp [h.1, hi]
  exact ⟨_, e, h.2 i x _ hx e, fpart h.len e⟩
theorem Els.snoc (k : Els T R l css) {y : α} {cy : List Value} (h : T.P R y cy) : Els T R (l ++ [y]) (css ++ [cy]) := by
  refine ⟨by simp [k.1], fun i x cs h1 h2 => ?_⟩
  rcases Nat.lt_or_ge i l.length with hi | hi
  · rw [List.getElem?_append_left hi] at h1
    rw [List.getElem?_append_left (by rw [k.1]; exact hi)] at h2
    exact k.2 i x cs h1 h2
  · rw [List.getElem?_append_right hi] at h1
    rw [List.getElem?_append_right (by rw [k.1]; exact hi), k.1] at h2
    cases hd : i - l.length with
    | zero => rw [hd] at h1 h2; simp at h1 h2; subst h1 h2; exact h
    | succ n => rw [hd] at h1; simp at h1
theorem Els.app {l' : List α} {css' : List (List Value)} (k : Els T R l css) (h : Els T R l' css') : Els T R (l ++ l') (css ++ css') := by
  refine ⟨by simp [k.1, h.1], fun i x cs h1 h2 => ?_⟩
  rcases Nat.lt_or_ge i l.length with hi | hi
  · rw [List.getElem?_append_left hi] at h1
    rw [List.getElem?_append_left (by rw [k.1]; exact hi)] at h2
    exact k.2 i x cs h1 h2
  · rw [List.getElem?_append_right hi] at h1
    rw [List.getElem?_append_right (by rw [k.1]; exact hi), k.1] at h2
    exact h.2 _ x cs h1 h2
theorem Els.take (k : Els T R l css) (n : Nat) : Els T R (l.take n) (css.take n) := by
  refine ⟨by simp [k.1], fun i x cs h1 h2 => ?_⟩
  rw [List.getElem?_take] at h1 h2
  split at h1
  · rename_i hi; rw [if_pos hi] at h2; exact k.2 i x cs h1 h2
  · cases h1
theorem Els.drop (k : Els T R l css) (n : Nat) : Els T R (l.drop n) (css.drop n) := by
  refine ⟨by simp [k.1], fun i x cs h1 h2 => ?_⟩
  rw [List.getElem?_drop] at h1 h2
  exact k.2 _ x cs h1 h2
theorem Els.single {y : α} {cy : List Value} (h : T.P R y cy) : Els T R [y] [cy] := by have := Els.snoc (Els.nil (T := T)) h; simpa using this
theorem FrX.shape (h : FrX T R l v) : ∃ q cap, v = .slice q l.length cap ∧ l.length ≤ cap ∧ cap ≤ maxLen := by
  obtain ⟨css, _, q, cap, e, h1, h2, _⟩ := h
  exact ⟨q, cap, e, h1, h2⟩
theorem FrX.one (h : FrX T R l v) : v.oneCell' = true := by obtain ⟨q, cap, rfl, _⟩ := h.shape; rfl
/-- an element, where it stands -/
theorem FrX.at (h : FrX T R l v) {i : Nat} {x : α} (hx : l[i]? = some x) : ∃ b off cap cs, v = .slice (some ⟨b, off, none⟩) l.length cap ∧ T.P R x cs ∧ cs.length = T.sz ∧ ∀ (j : Nat) (u : Value), cs[j]? = some u → Hp.cell R ⟨b, off + i * T.sz + j, none⟩ = some u := by
  obtain ⟨css, he, q, cap, e, h1, h2, h3⟩ := h
  have hi := (List.getElem?_eq_some_iff.1 hx).1
  obtain ⟨cs, e1, e2, _⟩ := he.get hx
  rcases h3 with h0 | ⟨b, off, rfl, hc⟩
  · omega
  · exact ⟨b, off, cap, cs, e, e2, T.len e2, fun j u hj => by rw [Nat.add_assoc]; exact hc _ u (fget he.len e1 hj)⟩
theorem Els.at (he : Els T R l css) (h : FrS R v l.length css.flatten) {i : Nat} {x : α} (hx : l[i]? = some x) : ∃ b off cap cs, v = .slice (some ⟨b, off, none⟩) l.length cap ∧ css[i]? = some cs ∧ T.P R x cs ∧ cs.length = T.sz ∧ ∀ (j : Nat) (u : Value), cs[j]? = some u → Hp.cell R ⟨b, off + i * T.sz + j, none⟩ = some u := by
  obtain ⟨q, cap, e, h1, h2, h3⟩ := h
  have hi := (List.getElem?_eq_some_iff.1 hx).1
  obtain ⟨cs, e1, e2, _⟩ := he.get hx
  rcases h3 with h0 | ⟨b, off, rfl, hc⟩
  · omega
  · exact ⟨b, off, cap, cs, e, e1, e2, T.len e2, fun j u hj => by rw [Nat.add_assoc]; exact hc _ u (fget he.len e1 hj)⟩
theorem FrX.src {c : Cx} {R : Hp} {L : List Asn} {tx e' : TypeId} {l : List α} {v : Value} {css : List (List Value)} (hk : c.P.underlying tx = some (.slice e')) (he : Els T R l css) (h : FrS R v l.length css.flatten) : SrcJ c R L tx T.sz v l.length css.flatten := by
  obtain ⟨q, cap, rfl, h1, h2, h3⟩ := h
  rcases h3 with h0 | ⟨b, off, rfl, hc⟩
  · have hl : l = [] := List.eq_nil_of_length_eq_zero h0
    subst hl
    have : css = [] := List.eq_nil_of_length_eq_zero he.1
    subst this
    intro w hs
    cases q with
    | none => exact Src.ofNil w hk cap
    | some a => exact Src.ofSlice w hk a 0 cap [] (by simp) (fun j u hj => by simp at hj) (by simp)
  · exact src_ro hk hc he.flat he.one
/-- a slice of our own, no longer ours -/
theorem FrozenS.frx (h : FrozenS R v l.length css.flatten) (he : Els T R l css) : FrX T R l v := ⟨css, he, h.fr⟩
/-- what came in -/
theorem slcR_frx {β : Type} {r : Rdr β} (f : β → α) (hP : ∀ c x, c.length = T.sz → r R c x → T.P R (f x) c) {ys : List β} (h : slcR T.sz r R [v] ys) : FrX T R (ys.map f) v := by
  obtain ⟨q, cap, e, h1, h2, h3⟩ := h
  have e' : v = .slice q ys.length cap := by simpa using e
  rcases h3 with rfl | ⟨b, off, rfl, hc⟩
  · exact ⟨[], Els.nil, q, cap, e', h1, h2, .inl rfl⟩
  · obtain ⟨css, hl, hcs⟩ := list_of (n := ys.length) (P := fun i (c : List Value) => ∃ h : i < ys.length, c.length = T.sz ∧ (∀ (j : Nat) u, c[j]? = some u → Hp.cell R ⟨b, off + i * T.sz + j, none⟩ = some u) ∧ r R c ys[i]) (fun i hi => by
      obtain ⟨c, q1, q2, q3⟩ := hc i hi
      exact ⟨c, hi, q1, q2, q3⟩)
    have hlen : ∀ c ∈ css, c.length = T.sz := fun c hc => by
      obtain ⟨i, hi, rfl⟩ := List.getElem_of_mem hc
      exact (hcs i hi).2.1
    refine ⟨css, ⟨by simp [hl], fun i x cs e1 e2 => ?_⟩, some ⟨b, off, none⟩, cap, by simpa using e', by simpa using h1, h2, .inr ⟨b, off, rfl, fun j u hj => ?_⟩⟩
    · have hi := (List.getElem?_eq_some_iff.1 e2).1
      obtain ⟨hi', q1, q2, q3⟩ := hcs i hi
      have e3 : css[i] = cs := by rw [List.getElem?_eq_getElem hi] at e2; simpa using e2
      rw [List.getElem?_map, List.getElem?_eq_getElem hi'] at e1
      simp at e1
      rw [← e1, ← e3]
      exact hP _ _ q1 q3
    · have hf := flen hlen
      have hj2 := (List.getElem?_eq_some_iff.1 hj).1
      rw [hf] at hj2
      have hpos : 0 < T.sz := by
        rcases Nat.eq_zero_or_pos T.sz with h0 | h0
        · rw [h0] at hj2; omega
        · exact h0
      have hdiv : j / T.sz < css.length := (Nat.div_lt_iff_lt_mul hpos).2 hj2
      have hmod : j % T.sz < T.sz := Nat.mod_lt _ hpos
      obtain ⟨hi', q1, q2, q3⟩ := hcs (j / T.sz) hdiv
      have e4 : j / T.sz * T.sz + j % T.sz = j := by rw [Nat.mul_comm]; exact Nat.div_add_mod j T.sz
      have g2 : css[j / T.sz][j % T.sz]? = some (css[j / T.sz][j % T.sz]'(by omega)) := by simp
      have := fget (n := T.sz) hlen (List.getElem?_eq_getElem hdiv) g2
      rw [e4] at this
      rw [this] at hj
      have q4 := q2 (j % T.sz) _ g2
      rw [Nat.add_assoc, e4] at q4
      rw [q4]; exact hj
end
end V
end Go.Proofs.Ytcgjlhhfldkdaaa
