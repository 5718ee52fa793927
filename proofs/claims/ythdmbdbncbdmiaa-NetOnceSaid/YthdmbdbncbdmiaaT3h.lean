/- The law CodecDeep walked. -/
import Derived.Test.YthdmbdbncbdmiaaT3g
set_option linter.unusedSimpArgs false
set_option linter.unusedVariables false
set_option maxRecDepth 100000
namespace Go.Proofs.Ythdmbdbncbdmiaa
open Go.RowKit
namespace V
set_option maxHeartbeats 4000000
/-- lists within lists -/
def chain : Nat → Nd
  | 0 => .mk 2 0 [] []
  | k + 1 => .mk 2 0 [] [chain k]
def chainB : Nat → List UInt8
  | 0 => [108, 0]
  | k + 1 => 108 :: 1 :: chainB k
theorem chain_ok : ∀ k, OkN (chain k)
  | 0 => .mk (by omega) (fun _ h => by simp at h)
  | k + 1 => .mk (by omega) (fun x h => by simp at h; subst h; exact chain_ok k)
theorem chain_wr : ∀ k, wr (chain k) = chainB k
  | 0 => by simp [chain, wr, wrs, sizeB_small, chainB]
  | k + 1 => by simp [chain, wr, wrs, sizeB_small, chainB, chain_wr k]
theorem chain_right : ∀ (d k : Nat), rightB d (chain k) = decide (k < d)
  | 0, k => by simp [rightB]
  | d + 1, 0 => by simp [rightB, chain]
  | d + 1, k + 1 => by simp [rightB, chain, chain_right d k]
theorem chainB_len : ∀ k, (chainB k).length = 2 * (k + 1)
  | 0 => rfl
  | k + 1 => by simp [chainB, chainB_len k]; omega
theorem right_le {x : Nd} {d d' : Nat} (h : rightB d x = true) (hd : d ≤ d') : rightB d' x = true := by
  induction d' with
  | zero => have : d = 0 := by omega
            subst this; exact h
  | succ d' ih =>
    by_cases e : d = d' + 1
    · subst e; exact h
    · exact rightB_mono _ _ (ih (by omega))
theorem rd_unique {d d' : Nat} {s : List UInt8} {x y : Nd} {r r' : List UInt8} (hs : s.length < 268435456) (h : rdM d s = some (x, r)) (h' : rdM d' s = some (y, r')) : x = y ∧ r = r' := by
  obtain ⟨a1, a2, a3⟩ := wr_rd d s x r h
  obtain ⟨b1, b2, b3⟩ := wr_rd d' s y r' h'
  have hl1 : (wr x).length < 268435456 := by rw [a1] at hs; simp at hs; omega
  have hl2 : (wr y).length < 268435456 := by rw [b1] at hs; simp at hs; omega
  have e1 := rd_wr (max d d') x r a3 (right_le a2 (Nat.le_max_left _ _)) hl1
  have e2 := rd_wr (max d d') y r' b3 (right_le b2 (Nat.le_max_right _ _)) hl2
  rw [← a1] at e1
  rw [← b1, e1] at e2
  simpa using e2
theorem chain_read (k : Nat) (hk : k < 30) : (readM (chainB k)).2 = decide (k < 20) := by
  have hl := chainB_len k
  by_cases h : k < 20
  · rw [← chain_wr, readM_wr (chain_ok k) (by rw [chain_right]; exact decide_eq_true h) (by rw [chain_wr, hl]; omega)]
    simp [h]
  · have : rdM 20 (chainB k) = none := by
      cases hr : rdM 20 (chainB k) with
      | none => rfl
      | some q =>
        obtain ⟨y, r⟩ := q
        have h2 := rd_wr (k + 1) (chain k) [] (chain_ok k) (by rw [chain_right]; simp) (by rw [chain_wr, hl]; omega)
        rw [List.append_nil, chain_wr] at h2
        obtain ⟨rfl, _⟩ := rd_unique (by omega) hr h2
        have := (wr_rd 20 _ _ _ hr).2.1
        rw [chain_right] at this
        exact absurd (of_decide_eq_true this) h
    rw [readM_none (fun _ => this)]
    simp [h]
theorem chain_write (k : Nat) (hk : k < 30) : writeM (chain k) = if k < 20 then (chainB k, true) else ([], false) := by
  unfold writeM
  rw [chain_right, chain_wr, chainB_len]
  by_cases h : k < 20
  · rw [if_pos ⟨decide_eq_true h, by omega⟩, if_pos h]
  · rw [if_neg (fun e => h (of_decide_eq_true e.1)), if_neg h]
theorem chain_kids {R : Hp} {k : Nat} {cy : List Value} (h : RepN R (chain k) cy) : Kids R [chain k] [cy] := by
  have := Kids.snoc (ks := []) (css := []) ⟨rfl, fun i x cs h _ => by simp at h⟩ h
  simpa using this
/-- so many times l1 -/
def ones : Nat → List UInt8
  | 0 => []
  | k + 1 => ones k ++ [108, 1]
theorem ones_len : ∀ k, (ones k).length = 2 * k
  | 0 => rfl
  | k + 1 => by simp [ones, ones_len k]; omega
theorem ones_comm : ∀ k, ones k ++ [108, 1] = [108, 1] ++ ones k
  | 0 => rfl
  | k + 1 => by rw [ones, ones_comm k, List.append_assoc, ones_comm k]
theorem chain_ones : ∀ k, ones k ++ [108, 0] = chainB k
  | 0 => rfl
  | k + 1 => by rw [ones, ones_comm, List.append_assoc, chain_ones k]; rfl
end V
end Go.Proofs.Ythdmbdbncbdmiaa
