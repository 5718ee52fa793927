/- Nodes told by steps, with no program in sight; how large they get. -/
import Derived.Test.YthdmbdbncbdmiaaT3p
namespace Go.Proofs.Ythdmbdbncbdmiaa
namespace V
mutual
def cost : Nd → Nat
  | .mk _ _ s l => 40 + s.length + costL l
def costL : List Nd → Nat
  | [] => 0
  | x :: l => cost x + costL l
end
theorem costL_app : ∀ (a b : List Nd), costL (a ++ b) = costL a + costL b
  | [], b => by simp [costL]
  | x :: a, b => by rw [List.cons_append, costL, costL_app a b, costL]; omega
theorem costL_len : ∀ l : List Nd, 40 * l.length ≤ costL l
  | [] => by simp [costL]
  | x :: l => by
    have := costL_len l
    rw [costL, List.length_cons]
    cases x; rw [cost]; omega
mutual
theorem deepN_cost : ∀ x : Nd, deepN x ≤ cost x
  | .mk k n s l => by rw [deepN, cost]; have := deepL_cost l; omega
theorem deepL_cost : ∀ l : List Nd, deepL l ≤ costL l
  | [] => by simp [deepL]
  | x :: l => by rw [deepL, costL]; have := deepN_cost x; have := deepL_cost l; omega
end
mutual
theorem wr_cost : ∀ x : Nd, OkN x → cost x ≤ 1000000000 → (wr x).length ≤ cost x
  | .mk k n s l, h, hc => by
    have hn : n < 18446744073709551616 := by cases h with | mk h1 _ => exact h1
    have hk : ∀ y ∈ l, OkN y := by cases h with | mk _ h2 => exact h2
    rw [cost] at hc ⊢
    have h1 := wrs_cost l hk (by omega)
    have h2 := numB_length 8 n (by omega)
    have h3 := sizeB_len 5 (numB n).length (by omega)
    have h4 := sizeB_len 5 s.length (by simp; omega)
    have h6 := costL_len l
    have h5 := sizeB_len 5 l.length (by simp; omega)
    rw [wr]
    split
    · simp; omega
    · split <;> simp <;> omega
theorem wrs_cost : ∀ l : List Nd, (∀ y ∈ l, OkN y) → costL l ≤ 1000000000 → (wrs l).length ≤ costL l
  | [], _, _ => by simp [wrs]
  | x :: l, h, hc => by
    rw [costL] at hc ⊢
    have h1 := wr_cost x (h x (by simp)) (by omega)
    have h2 := wrs_cost l (fun y hy => h y (by simp [hy])) (by omega)
    rw [wrs, List.length_append]; omega
end
/-- the last one gets a number and a text -/
def setLast : List Nd → Nat → List UInt8 → List Nd
  | [], _, _ => []
  | [.mk k _ _ l], n, s => [.mk k n s l]
  | x :: y :: m, n, s => x :: setLast (y :: m) n s
def shutT : List (List Nd) → List (List Nd)
  | ks :: kt :: rest => (kt ++ [.mk 2 0 [] ks]) :: rest
  | st => st
def stepT (what : Int) (n : Nat) (s : List UInt8) : List (List Nd) → List (List Nd)
  | [] => []
  | ks :: rest => if what = 0 then (ks ++ [.mk 0 n [] []]) :: rest else if what = 1 then (ks ++ [.mk 1 0 s []]) :: rest else if what = 2 then [] :: ks :: rest
      else if what = 3 then shutT (ks :: rest) else if what = 4 then setLast ks n s :: rest else ks :: rest
def costS : List (List Nd) → Nat
  | [] => 0
  | ks :: st => 40 + costL ks + costS st
def OkS (st : List (List Nd)) : Prop := ∀ ks ∈ st, ∀ x ∈ ks, OkN x
theorem setLast_cost : ∀ (ks : List Nd) (n : Nat) (s : List UInt8), costL (setLast ks n s) ≤ costL ks + s.length
  | [], n, s => by simp [setLast, costL]
  | [.mk k _ t l], n, s => by simp [setLast, costL, cost]; omega
  | x :: y :: m, n, s => by rw [setLast, costL, costL]; have := setLast_cost (y :: m) n s; omega
theorem setLast_ok : ∀ (ks : List Nd) (n : Nat) (s : List UInt8), n < 18446744073709551616 → (∀ x ∈ ks, OkN x) → ∀ x ∈ setLast ks n s, OkN x
  | [], n, s, _, h => by simp [setLast]
  | [.mk k m t l], n, s, hn, h => by
    intro x hx
    simp [setLast] at hx
    subst hx
    have := h (.mk k m t l) (by simp)
    cases this with | mk _ h2 => exact .mk hn h2
  | x :: y :: m, n, s, hn, h => by
    intro z hz
    rw [setLast] at hz
    rcases List.mem_cons.1 hz with rfl | hz
    · exact h _ (by simp)
    · exact setLast_ok (y :: m) n s hn (fun w hw => h w (by simp [hw])) z hz
theorem setLast_len : ∀ (ks : List Nd) (n : Nat) (s : List UInt8), (setLast ks n s).length = ks.length
  | [], _, _ => rfl
  | [.mk _ _ _ _], _, _ => rfl
  | x :: y :: m, n, s => by rw [setLast, List.length_cons, setLast_len (y :: m)]; rfl
theorem setLast_snoc : ∀ (ks : List Nd) (k : Int) (m : Nat) (t : List UInt8) (l : List Nd) (n : Nat) (s : List UInt8), setLast (ks ++ [.mk k m t l]) n s = ks ++ [.mk k n s l]
  | [], _, _, _, _, _, _ => rfl
  | [x], k, m, t, l, n, s => by simp [setLast]
  | x :: y :: r, k, m, t, l, n, s => by
    have := setLast_snoc (y :: r) k m t l n s
    simp only [List.cons_append] at this ⊢
    rw [setLast, this]
theorem shutT_cost : ∀ st : List (List Nd), costS (shutT st) ≤ costS st
  | [] => Nat.le_refl _
  | [_] => Nat.le_refl _
  | ks :: kt :: rest => by simp [shutT, costS, costL_app, costL, cost]; omega
theorem shutT_ok {st : List (List Nd)} (h : OkS st) : OkS (shutT st) := by
  match st with
  | [] => exact h
  | [_] => exact h
  | ks :: kt :: rest =>
    intro l hl x hx
    simp only [shutT, List.mem_cons] at hl
    rcases hl with rfl | hl
    · rcases List.mem_append.1 hx with hx | hx
      · exact h kt (by simp) x hx
      · simp at hx; subst hx; exact .mk (by omega) (fun y hy => h ks (by simp) y hy)
    · exact h l (by simp [hl]) x hx
theorem stepT_cost (what : Int) (n : Nat) (s : List UInt8) (hs : s.length ≤ 300) (st : List (List Nd)) : costS (stepT what n s st) ≤ costS st + 340 := by
  cases st with
  | nil => simp [stepT, costS]
  | cons ks rest =>
    rw [stepT]
    split
    · simp [costS, costL_app, costL, cost]; omega
    · split
      · simp [costS, costL_app, costL, cost]; omega
      · split
        · simp [costS, costL]; omega
        · split
          · have := shutT_cost (ks :: rest); omega
          · split
            · have := setLast_cost ks n s; simp [costS]; omega
            · omega
theorem stepT_ok (what : Int) (n : Nat) (s : List UInt8) (hn : n < 18446744073709551616) {st : List (List Nd)} (h : OkS st) : OkS (stepT what n s st) := by
  cases st with
  | nil => exact h
  | cons ks rest =>
    have h1 : ∀ x ∈ ks, OkN x := h ks (by simp)
    have h2 : ∀ l ∈ rest, ∀ x ∈ l, OkN x := fun l hl => h l (by simp [hl])
    rw [stepT]
    split
    · intro l hl x hx
      rcases List.mem_cons.1 hl with rfl | hl
      · rcases List.mem_append.1 hx with hx | hx
        · exact h1 x hx
        · simp at hx; subst hx; exact .mk hn (fun _ hy => by simp at hy)
      · exact h2 l hl x hx
    · split
      · intro l hl x hx
        rcases List.mem_cons.1 hl with rfl | hl
        · rcases List.mem_append.1 hx with hx | hx
          · exact h1 x hx
          · simp at hx; subst hx; exact .mk (by omega) (fun _ hy => by simp at hy)
        · exact h2 l hl x hx
      · split
        · intro l hl x hx
          rcases List.mem_cons.1 hl with rfl | hl
          · simp at hx
          · exact h l hl x hx
        · split
          · exact shutT_ok h
          · split
            · intro l hl x hx
              rcases List.mem_cons.1 hl with rfl | hl
              · exact setLast_ok ks n s hn h1 x hx
              · exact h2 l hl x hx
            · exact h
end V
end Go.Proofs.Ythdmbdbncbdmiaa
