/- A log, plain: its records, their bytes, and what they say when they are done once more. -/
import Derived.Test.YtcgjlhhfldkdaaaTMp
import Derived.Test.YtcgjlhhfldkdaaaT7a
import Derived.Test.YtcgjlhhfldkdaaaT3g
set_option linter.unusedSimpArgs false
set_option linter.unusedVariables false
namespace Go.Proofs.Ytcgjlhhfldkdaaa
open Go.RowKit
namespace V
set_option maxHeartbeats 4000000
abbrev Bs := List UInt8
structure LG where
  term : Int
  vote : Int
  base : Int
  baseT : Int
  state : Bs
  all : List Ent
  down : Bool
def LG.new : LG := ⟨0, -1, 0, 0, [], [], false⟩
def LG.last (g : LG) : Int := g.base + g.all.length
def LG.at (g : LG) (i : Int) : Option Ent := if g.base < i ∧ i ≤ g.last then g.all[(i - g.base - 1).toNat]? else none
def LG.termAt (g : LG) (i : Int) : Option Int := if i = g.base then some g.baseT else (g.at i).map (·.1)
/-- numbers that a word holds; not too much -/
structure LG.ok (g : LG) : Prop where
  term : u64B g.term
  vote : -1 ≤ g.vote ∧ g.vote < 9223372036854775807
  base : 0 ≤ g.base ∧ g.base ≤ 1000000000000000
  baseT : u64B g.baseT
  state : g.state.length ≤ 1000000
  alln : g.all.length ≤ 100000
  all : ∀ e ∈ g.all, u64B e.1 ∧ e.2.length ≤ 1000000
theorem LG.new_ok : LG.new.ok := ⟨by unfold u64B; decide, by decide, by decide, by unfold u64B; decide, by decide, by decide, fun e he => by cases he⟩
def numN (n : Nat) : Nd := .mk 0 n [] []
def strN (s : Bs) : Nd := .mk 1 0 s []
def entN (e : Ent) : Nd := .mk 2 0 [] [numN e.1.toNat, strN e.2]
def listN (l : List Ent) : Nd := .mk 2 0 [] (l.map entN)
inductive Rec
  | term (t : Int) (v : Int)
  | add (behind : Int) (m : List Ent)
  | all (g : LG)
def Rec.kids : Rec → List Nd
  | .term t v => [numN 0, numN t.toNat, numN (v + 1).toNat]
  | .add b m => [numN 1, numN b.toNat, listN m]
  | .all g => [numN 2, numN g.term.toNat, numN (g.vote + 1).toNat, numN g.base.toNat, numN g.baseT.toNat, strN g.state, listN g.all]
def Rec.nd (r : Rec) : Nd := .mk 2 0 [] r.kids
def be4 (n : Nat) : Bs := [UInt8.ofNat (n / 16777216 % 256), UInt8.ofNat (n / 65536 % 256), UInt8.ofNat (n / 256 % 256), UInt8.ofNat (n % 256)]
def Rec.bytes (r : Rec) : Bs := be4 (wr r.nd).length ++ wr r.nd
def recsB (l : List Rec) : Bs := (l.map Rec.bytes).flatten
/-- a record that may stand behind a log -/
def Rec.may (g : LG) : Rec → Prop
  | .term t v => u64B t ∧ -1 ≤ v ∧ v < 9223372036854775807
  | .add b m => (g.base ≤ b ∧ b ≤ g.last) ∧ (∀ e ∈ m, u64B e.1 ∧ e.2.length ≤ 1000000) ∧ m.length ≤ 100000
  | .all h => h.ok
def LG.play (g : LG) : Rec → LG
  | .term t v => { g with term := t, vote := v }
  | .add b m => { g with all := g.all.take (b - g.base).toNat ++ m }
  | .all h => { h with down := g.down }
/-- records that go, one behind the other, and what they leave -/
inductive Plays : LG → List Rec → LG → Prop
  | nil (g : LG) : g.ok → Plays g [] g
  | cons {g h : LG} {r : Rec} {l : List Rec} : g.ok → r.may g → (wr r.nd).length ≤ 16777216 → Plays (g.play r) l h → Plays g (r :: l) h
theorem Plays.okL {g h : LG} {l : List Rec} (p : Plays g l h) : g.ok := by cases p <;> assumption
theorem Plays.okR {g h : LG} {l : List Rec} (p : Plays g l h) : h.ok := by
  induction p with
  | nil g h => exact h
  | cons _ _ _ _ ih => exact ih
theorem Plays.snoc {g h : LG} {l : List Rec} {r : Rec} (p : Plays g l h) (hm : r.may h) (hl : (wr r.nd).length ≤ 16777216) (ho : (h.play r).ok) : Plays g (l ++ [r]) (h.play r) := by
  induction p with
  | nil g hg => exact .cons hg hm hl (.nil _ ho)
  | cons h1 h2 h3 _ ih => exact .cons h1 h2 h3 (ih hm ho)
theorem recsB_snoc (l : List Rec) (r : Rec) : recsB (l ++ [r]) = recsB l ++ r.bytes := by simp [recsB]
theorem be4_len (n : Nat) : (be4 n).length = 4 := rfl
def be4N (l : Bs) : Nat := (l.getD 0 0).toNat * 16777216 + (l.getD 1 0).toNat * 65536 + (l.getD 2 0).toNat * 256 + (l.getD 3 0).toNat
theorem be4_N {n : Nat} (h : n < 4294967296) (r : Bs) : be4N (be4 n ++ r) = n := by
  unfold be4N be4
  simp
  omega
/-- an end that is torn -/
def torn (t : Bs) : Prop := t.length < 4 ∨ t.length - 4 < be4N t
theorem torn_nil : torn [] := .inl (by decide)
theorem torn_pre {r : Rec} (hl : (wr r.nd).length ≤ 16777216) {k : Nat} (hk : k < r.bytes.length) : torn (r.bytes.take k) := by
  unfold Rec.bytes at hk ⊢
  simp only [List.length_append, be4_len] at hk
  by_cases h4 : k < 4
  · left; simp; omega
  · right
    have e : (be4 (wr r.nd).length ++ wr r.nd).take k = be4 (wr r.nd).length ++ (wr r.nd).take (k - 4) := by
      rw [List.take_append, be4_len, List.take_of_length_le (by rw [be4_len]; omega)]
    rw [e, be4_N (by omega)]
    simp only [List.length_append, be4_len, List.length_take]
    omega
theorem ent_okN {e : Ent} (h : u64B e.1) : OkN (entN e) := .mk (by decide) (fun x hx => by
  simp only [List.mem_cons, List.not_mem_nil, or_false] at hx
  unfold u64B at h
  rcases hx with rfl | rfl
  · exact .mk (by omega) (fun y hy => by cases hy)
  · exact .mk (by decide) (fun y hy => by cases hy))
theorem num_okN {n : Nat} (h : n < 18446744073709551616) : OkN (numN n) := .mk h (fun y hy => by cases hy)
theorem str_okN (s : Bs) : OkN (strN s) := .mk (by decide) (fun y hy => by cases hy)
theorem list_okN {l : List Ent} (h : ∀ e ∈ l, u64B e.1) : OkN (listN l) := .mk (by decide) (fun x hx => by
  obtain ⟨e, he, rfl⟩ := List.mem_map.1 hx; exact ent_okN (h e he))
theorem toNat64 {n : Int} (h : u64B n) : n.toNat < 18446744073709551616 ∧ ((n.toNat : Nat) : Int) = n := by unfold u64B at h; omega
theorem Rec.kids_ok {g : LG} {r : Rec} (h : r.may g) (hg : g.ok) : ∀ x ∈ r.kids, OkN x := by
  intro x hx
  cases r with
  | term t v =>
    obtain ⟨h1, h2, h3⟩ := h
    simp only [Rec.kids, List.mem_cons, List.not_mem_nil, or_false] at hx
    rcases hx with rfl | rfl | rfl
    · exact num_okN (by decide)
    · exact num_okN (toNat64 h1).1
    · exact num_okN (by omega)
  | add b m =>
    obtain ⟨⟨h1, h2⟩, h3, h4⟩ := h
    have hb := hg.base
    have hn := hg.alln
    simp only [Rec.kids, List.mem_cons, List.not_mem_nil, or_false] at hx
    rcases hx with rfl | rfl | rfl
    · exact num_okN (by decide)
    · exact num_okN (by unfold LG.last at h2; omega)
    · exact list_okN (fun e he => (h3 e he).1)
  | all k =>
    have h : k.ok := h
    have hb := h.base
    have hv := h.vote
    simp only [Rec.kids, List.mem_cons, List.not_mem_nil, or_false] at hx
    rcases hx with rfl | rfl | rfl | rfl | rfl | rfl | rfl
    · exact num_okN (by decide)
    · exact num_okN (toNat64 h.term).1
    · exact num_okN (by omega)
    · exact num_okN (by omega)
    · exact num_okN (toNat64 h.baseT).1
    · exact str_okN _
    · exact list_okN (fun e he => (h.all e he).1)
theorem Rec.okN {g : LG} {r : Rec} (h : r.may g) (hg : g.ok) : OkN r.nd := .mk (by decide) (Rec.kids_ok h hg)
theorem right_num (d n : Nat) : rightB (d + 1) (numN n) = true := by simp [rightB, numN]
theorem right_str (d : Nat) (s : Bs) : rightB (d + 1) (strN s) = true := by simp [rightB, strN]
theorem right_ent (d : Nat) (e : Ent) : rightB (d + 2) (entN e) = true := by
  have h1 := right_num d e.1.toNat
  have h2 := right_str d e.2
  rw [entN, rightB]; simp [h1, h2]
theorem right_list (d : Nat) (l : List Ent) : rightB (d + 3) (listN l) = true := by
  rw [listN, rightB]
  simp [right_ent]
theorem Rec.right (r : Rec) : rightB 20 r.nd = true := by
  have h1 := right_num 18
  have h2 := right_str 18
  have h3 := right_list 16
  cases r <;> (rw [Rec.nd, rightB]; simp [Rec.kids, h1, h2, h3])
theorem Rec.write (r : Rec) (hl : (wr r.nd).length ≤ 16777216) : writeM r.nd = (wr r.nd, true) := by
  unfold writeM; rw [if_pos ⟨r.right, hl⟩]
theorem Rec.read {g : LG} {r : Rec} (h : r.may g) (hg : g.ok) (hl : (wr r.nd).length ≤ 16777216) : readM (wr r.nd) = (r.nd, true) := readM_wr (Rec.okN h hg) r.right hl
/-! how long records are -/
theorem numB_le (n : Nat) (h : n < 18446744073709551616) : (numB n).length ≤ 8 := numB_length 8 n (by simpa using h)
theorem sizeB_le (n : Nat) (h : n ≤ 1000000) : (sizeB n).length ≤ 3 := sizeB_len 2 n (by simp; omega)
theorem wr_num {n : Nat} (h : n < 18446744073709551616) : (wr (numN n)).length ≤ 12 := by
  have h1 := numB_le n h
  have h2 := sizeB_le (numB n).length (by omega)
  simp [wr, numN]; omega
theorem wr_str {s : Bs} (h : s.length ≤ 1000000) : (wr (strN s)).length ≤ 4 + s.length := by
  have h2 := sizeB_le s.length h
  simp [wr, strN]; omega
theorem wr_ent {e : Ent} (h : u64B e.1) (hs : e.2.length ≤ 1000000) : (wr (entN e)).length ≤ 20 + e.2.length := by
  have h1 := wr_num (toNat64 h).1
  have h2 := wr_str hs
  have h3 := sizeB_le 2 (by decide)
  have e3 : (sizeB 2).length = 1 := by rw [sizeB_small (by decide)]; rfl
  rw [entN, wr, if_neg (by decide), if_neg (by decide), wrs, wrs, wrs]
  simp [e3]; omega
def entsLen (l : List Ent) : Nat := (l.map fun e => 20 + e.2.length).sum
theorem wrs_ents : ∀ {l : List Ent}, (∀ e ∈ l, u64B e.1 ∧ e.2.length ≤ 1000000) → (wrs (l.map entN)).length ≤ entsLen l
  | [], _ => by simp [wrs, entsLen]
  | e :: l, h => by
    have h1 := wr_ent (h e (by simp)).1 (h e (by simp)).2
    have h2 := wrs_ents (l := l) (fun e he => h e (by simp [he]))
    simp [wrs, entsLen] at h2 ⊢; omega
theorem wr_list {l : List Ent} (h : ∀ e ∈ l, u64B e.1 ∧ e.2.length ≤ 1000000) (hl : l.length ≤ 1000000) : (wr (listN l)).length ≤ 4 + entsLen l := by
  have h1 := wrs_ents h
  have h2 := sizeB_le l.length hl
  rw [listN, wr, if_neg (by decide), if_neg (by decide)]
  simp; omega
theorem Rec.len_term {t v : Int} (h : u64B t) (hv : -1 ≤ v ∧ v < 9223372036854775807) : (wr (Rec.term t v).nd).length ≤ 40 := by
  have h1 := wr_num (n := 0) (by decide)
  have h2 := wr_num (toNat64 h).1
  have h3 := wr_num (n := (v + 1).toNat) (by omega)
  have e3 : (sizeB 3).length = 1 := by rw [sizeB_small (by decide)]; rfl
  rw [Rec.nd, wr, if_neg (by decide), if_neg (by decide)]
  simp [Rec.kids, wrs, e3]; omega
theorem Rec.len_add {b : Int} {m : List Ent} (hb : 0 ≤ b ∧ b ≤ 10000000000000000) (h : ∀ e ∈ m, u64B e.1 ∧ e.2.length ≤ 1000000) (hm : m.length ≤ 100000) : (wr (Rec.add b m).nd).length ≤ 40 + entsLen m := by
  have h1 := wr_num (n := 1) (by decide)
  have h2 := wr_num (n := b.toNat) (by omega)
  have h3 := wr_list h (by omega)
  have e3 : (sizeB 3).length = 1 := by rw [sizeB_small (by decide)]; rfl
  rw [Rec.nd, wr, if_neg (by decide), if_neg (by decide)]
  simp [Rec.kids, wrs, e3]; omega
theorem Rec.len_all {g : LG} (h : g.ok) : (wr (Rec.all g).nd).length ≤ 100 + g.state.length + entsLen g.all := by
  have hb := h.base
  have hv := h.vote
  have h0 := wr_num (n := 2) (by decide)
  have h1 := wr_num (toNat64 h.term).1
  have h2 := wr_num (n := (g.vote + 1).toNat) (by omega)
  have h3 := wr_num (n := g.base.toNat) (by omega)
  have h4 := wr_num (toNat64 h.baseT).1
  have h5 := wr_str h.state
  have h6 := wr_list h.all (by have := h.alln; omega)
  have e3 : (sizeB 7).length = 1 := by rw [sizeB_small (by decide)]; rfl
  rw [Rec.nd, wr, if_neg (by decide), if_neg (by decide)]
  simp [Rec.kids, wrs, e3]; omega
end V
end Go.Proofs.Ytcgjlhhfldkdaaa
