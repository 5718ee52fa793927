/- Values and expressions, plain. -/
import Derived.Test.YtghgifgmacapcaaV14
set_option linter.unusedSimpArgs false
set_option linter.unusedVariables false
namespace Go.Proofs.Ytghgifgmacapcaa
namespace V
abbrev Bs := List UInt8
structure Vl where
  kind : Int
  n : Int
  s : Bs
deriving DecidableEq
def Vl.zero : Vl := ⟨0, 0, []⟩
inductive Op | val | col | count | not | neg | isnull | sum | min | max | or | and | eq | ne | lt | le | gt | ge | add | sub | cat | mul | div | rem
deriving DecidableEq
def Op.str : Op → Bs
  | .val => [118, 97, 108] | .col => [99, 111, 108] | .count => [99, 111, 117, 110, 116] | .not => [110, 111, 116] | .neg => [110, 101, 103] | .isnull => [105, 115, 110, 117, 108, 108] | .sum => [115, 117, 109] | .min => [109, 105, 110] | .max => [109, 97, 120]
  | .or => [111, 114] | .and => [97, 110, 100] | .eq => [61] | .ne => [60, 62] | .lt => [60] | .le => [60, 61] | .gt => [62] | .ge => [62, 61] | .add => [43] | .sub => [45] | .cat => [124, 124] | .mul => [42] | .div => [47] | .rem => [37]
theorem Op.str_inj {a b : Op} (h : a.str = b.str) : a = b := by cases a <;> cases b <;> first | rfl | (revert h; decide)
inductive Ex | mk (op : Op) (v : Vl) (name : Bs) (kids : List Ex)
def Ex.op : Ex → Op | .mk o _ _ _ => o
def Ex.v : Ex → Vl | .mk _ v _ _ => v
def Ex.name : Ex → Bs | .mk _ _ n _ => n
def Ex.kids : Ex → List Ex | .mk _ _ _ k => k
/-- families: 0 others, 1 conditions, 2 compares, 3 reckons, 4 joins, 5 groups -/
def fam : Op → Int
  | .or | .and | .not => 1
  | .eq | .ne | .lt | .le | .gt | .ge => 2
  | .add | .sub | .mul | .div | .rem | .neg => 3
  | .cat => 4
  | .count | .sum | .min | .max => 5
  | .val | .col | .isnull => 0
def arity : Op → Nat
  | .val | .col | .count => 0
  | .not | .neg | .isnull | .sum | .min | .max => 1
  | _ => 2
/-- a value that is one -/
def isV (v : Vl) : Bool := if v.kind = 0 then decide (v.n = 0 ∧ v.s = []) else if v.kind = 1 then decide (v.s = []) else if v.kind = 2 then decide (v.n = 0 ∧ v.s.length ≤ 200) else false
inductive WfX : Ex → Prop
  | mk {op : Op} {v : Vl} {name : Bs} {kids : List Ex} : kids.length = arity op → isV v = true → -9223372036854775808 ≤ v.n ∧ v.n ≤ 9223372036854775807 → (∀ y ∈ kids, WfX y) → WfX (.mk op v name kids)
theorem WfX.inv {op : Op} {v : Vl} {name : Bs} {kids : List Ex} (h : WfX (.mk op v name kids)) : kids.length = arity op ∧ isV v = true ∧ (-9223372036854775808 ≤ v.n ∧ v.n ≤ 9223372036854775807) ∧ ∀ y ∈ kids, WfX y := by cases h with | mk h1 h2 h3 h4 => exact ⟨h1, h2, h3, h4⟩
mutual
def grp : Ex → Bool
  | .mk op _ _ kids => decide (fam op = 5) || grpL kids
def grpL : List Ex → Bool
  | [] => false
  | x :: l => grp x || grpL l
end
mutual
def bareB : Ex → Bool
  | .mk op _ _ kids => decide (¬ fam op = 5) && (decide (op = .col) || bareL kids)
def bareL : List Ex → Bool
  | [] => false
  | x :: l => bareB x || bareL l
end
theorem grpL_any : ∀ l : List Ex, grpL l = l.any grp
  | [] => rfl
  | x :: l => by rw [grpL, grpL_any l]; rfl
theorem bareL_any : ∀ l : List Ex, bareL l = l.any bareB
  | [] => rfl
  | x :: l => by rw [bareL, bareL_any l]; rfl
structure Cl where
  name : Bs
  kind : Int
  how : Int
deriving DecidableEq
/-- a column's place -/
def placeC (cols : List Cl) (name : Bs) : Int := match cols.findIdx? (fun c => decide (c.name = name)) with
  | some i => (i : Int)
  | none => -1
mutual
/-- an expression's kind, and the error -/
def kindX (cols : List Cl) : Bool → Ex → Int × Int
  | may, .mk op v name kids =>
    let r := kindsX cols (may && decide (¬ fam op = 5)) kids
    if r.2 ≠ 0 then (0, r.2) else
    if fam op = 1 ∨ fam op = 3 then (if r.1.contains 2 then (0, 22) else (1, 0))
    else if fam op = 2 then (if r.1.contains 2 && r.1.contains 1 then (0, 22) else (1, 0))
    else if fam op = 4 then (if r.1.contains 1 then (0, 22) else (2, 0))
    else if fam op = 5 then (if !may || (decide (op = .sum) && r.1.contains 2) then (0, 22) else if op = .min ∨ op = .max then (r.1.getD 0 0, 0) else (1, 0))
    else if op = .col then (if placeC cols name < 0 then (0, 21) else ((cols.getD (placeC cols name).toNat ⟨[], 0, 0⟩).kind, 0))
    else if op = .isnull then (1, 0)
    else (v.kind, 0)
def kindsX (cols : List Cl) : Bool → List Ex → List Int × Int
  | _, [] => ([], 0)
  | may, x :: l =>
    let k := kindX cols may x
    if k.2 ≠ 0 then ([], k.2) else
    let r := kindsX cols may l
    if r.2 ≠ 0 then ([], r.2) else (k.1 :: r.1, 0)
end
def kindE (cols : List Cl) (may : Bool) (x : Ex) : Int × Int := let k := kindX cols may x; if k.2 = 0 ∧ grp x = true ∧ bareB x = true then (0, 22) else k
theorem kindsX_err {cols : List Cl} {may : Bool} : ∀ {l : List Ex} {i : Nat} {x : Ex}, (kindsX cols may (l.take i)).2 = 0 → l[i]? = some x → (kindX cols may x).2 ≠ 0 → kindsX cols may l = ([], (kindX cols may x).2)
  | [], i, x, _, h, _ => by simp at h
  | y :: l, 0, x, _, h, hx => by
    simp at h; subst h
    rw [kindsX]; simp only; rw [if_pos hx]
  | y :: l, i + 1, x, h0, h, hx => by
    rw [List.take_succ_cons, kindsX] at h0
    simp only at h0
    rw [kindsX]; simp only
    by_cases hy : (kindX cols may y).2 = 0
    · rw [if_neg (by simpa using hy)] at h0 ⊢
      by_cases hl : (kindsX cols may (l.take i)).2 = 0
      · have := kindsX_err hl (by simpa using h) hx
        rw [this]; simp only; rw [if_pos hx]
      · rw [if_pos hl] at h0; exact absurd h0 hl
    · rw [if_pos hy] at h0; exact absurd h0 hy
theorem kindsX_snoc {cols : List Cl} {may : Bool} : ∀ {l : List Ex} {i : Nat} {x : Ex}, (kindsX cols may (l.take i)).2 = 0 → l[i]? = some x → (kindX cols may x).2 = 0 → kindsX cols may (l.take (i + 1)) = ((kindsX cols may (l.take i)).1 ++ [(kindX cols may x).1], 0)
  | [], i, x, _, h, _ => by simp at h
  | y :: l, 0, x, _, h, hx => by
    simp at h; subst h
    simp [kindsX, hx]
  | y :: l, i + 1, x, h0, h, hx => by
    rw [List.take_succ_cons] at h0 ⊢
    rw [List.take_succ_cons]
    rw [kindsX] at h0 ⊢
    simp only at h0 ⊢
    by_cases hy : (kindX cols may y).2 = 0
    · rw [if_neg (by simpa using hy)] at h0 ⊢
      by_cases hl : (kindsX cols may (l.take i)).2 = 0
      · have := kindsX_snoc hl (by simpa using h) hx
        rw [kindsX]; simp only
        rw [this]
        simp [hy, hl]
      · rw [if_pos hl] at h0; exact absurd h0 hl
    · rw [if_pos hy] at h0; exact absurd h0 hy
theorem kindsX_len {cols : List Cl} {may : Bool} : ∀ {l : List Ex}, (kindsX cols may l).2 = 0 → (kindsX cols may l).1.length = l.length
  | [], _ => rfl
  | y :: l, h => by
    rw [kindsX] at h ⊢
    simp only at h ⊢
    by_cases hy : (kindX cols may y).2 = 0
    · rw [if_neg (by simpa using hy)] at h ⊢
      by_cases hl : (kindsX cols may l).2 = 0
      · rw [if_neg (by simpa using hl)]; simp [kindsX_len hl]
      · rw [if_pos hl] at h; exact absurd h hl
    · rw [if_pos hy] at h; exact absurd h hy
end V
end Go.Proofs.Ytghgifgmacapcaa
