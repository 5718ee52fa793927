/- The law CodecDeep walked. -/
import Derived.Test.YtcficaboohpmdaaT3g
set_option linter.unusedSimpArgs false
set_option linter.unusedVariables false
namespace Go.Proofs.Ytcficaboohpmdaa
open Go.RowKit
namespace V
set_option maxHeartbeats 4000000
/-- lists within lists -/
def chain : Nat → Nd
  | 0 => .mk 2 0 [] []
  | k + 1 => .mk 2 0 [] [chain k]
def chainB : Nat → List UInt8
  | 0 => [108, 0]
  | k + 1 => 108 :: 1 :: chainB k
theorem chain_ok : ∀ k, OkN (chain k)
  | 0 => .mk (by omega) (fun _ h => by simp at h)
  | k + 1 => .mk (by omega) (fun x h => by simp at h; subst h; exact chain_ok k)
theorem chain_wr : ∀ k, wr (chain k) = chainB k
  | 0 => by simp [chain, wr, wrs, sizeB_small, chainB]
  | k + 1 => by simp [chain, wr, wrs, sizeB_small, chainB, chain_wr k]
theorem chain_right : ∀ (d k : Nat), rightB d (chain k) = decide (k < d)
  | 0, k => by simp [rightB]
  | d + 1, 0 => by simp [rightB, chain]
  | d + 1, k + 1 => by simp [rightB, chain, chain_right d k]
theorem chainB_len : ∀ k, (chainB k).length = 2 * (k + 1)
  | 0 => rfl
  | k + 1 => by simp [chainB, chainB_len k]; omega
theorem right_le {x : Nd} {d d' : Nat} (h : rightB d x = true) (hd : d ≤ d') : rightB d' x = true := by
  induction d' with
  | zero => have : d = 0 := by omega
            subst this; exact h
  | succ d' ih =>
    by_cases e : d = d' + 1
    · subst e; exact h
    · exact rightB_mono _ _ (ih (by omega))
theorem rd_unique {d d' : Nat} {s : List UInt8} {x y : Nd} {r r' : List UInt8} (hs : s.length < 268435456) (h : rdM d s = some (x, r)) (h' : rdM d' s = some (y, r')) : x = y ∧ r = r' := by
  obtain ⟨a1, a2, a3⟩ := wr_rd d s x r h
  obtain ⟨b1, b2, b3⟩ := wr_rd d' s y r' h'
  have hl1 : (wr x).length < 268435456 := by rw [a1] at hs; simp at hs; omega
  have hl2 : (wr y).length < 268435456 := by rw [b1] at hs; simp at hs; omega
  have e1 := rd_wr (max d d') x r a3 (right_le a2 (Nat.le_max_left _ _)) hl1
  have e2 := rd_wr (max d d') y r' b3 (right_le b2 (Nat.le_max_right _ _)) hl2
  rw [← a1] at e1
  rw [← b1, e1] at e2
  simpa using e2
theorem chain_read (k : Nat) (hk : k < 30) : (readM (chainB k)).2 = decide (k < 20) := by
  have hl := chainB_len k
  by_cases h : k < 20
  · rw [← chain_wr, readM_wr (chain_ok k) (by rw [chain_right]; exact decide_eq_true h) (by rw [chain_wr, hl]; omega)]
    simp [h]
  · have : rdM 20 (chainB k) = none := by
      cases hr : rdM 20 (chainB k) with
      | none => rfl
      | some q =>
        obtain ⟨y, r⟩ := q
        have h2 := rd_wr (k + 1) (chain k) [] (chain_ok k) (by rw [chain_right]; simp) (by rw [chain_wr, hl]; omega)
        rw [List.append_nil, chain_wr] at h2
        obtain ⟨rfl, _⟩ := rd_unique (by omega) hr h2
        have := (wr_rd 20 _ _ _ hr).2.1
        rw [chain_right] at this
        exact absurd (of_decide_eq_true this) h
    rw [readM_none (fun _ => this)]
    simp [h]
theorem chain_write (k : Nat) (hk : k < 30) : writeM (chain k) = if k < 20 then (chainB k, true) else ([], false) := by
  unfold writeM
  rw [chain_right, chain_wr, chainB_len]
  by_cases h : k < 20
  · rw [if_pos ⟨decide_eq_true h, by omega⟩, if_pos h]
  · rw [if_neg (fun e => h (of_decide_eq_true e.1)), if_neg h]
theorem chain_kids {R : Hp} {k : Nat} {cy : List Value} (h : RepN R (chain k) cy) : Kids R [chain k] [cy] := by
  have := Kids.snoc (ks := []) (css := []) ⟨rfl, fun i x cs h _ => by simp at h⟩ h
  simpa using this
/-- so many times l1 -/
def ones : Nat → List UInt8
  | 0 => []
  | k + 1 => ones k ++ [108, 1]
theorem ones_len : ∀ k, (ones k).length = 2 * k
  | 0 => rfl
  | k + 1 => by simp [ones, ones_len k]; omega
theorem ones_comm : ∀ k, ones k ++ [108, 1] = [108, 1] ++ ones k
  | 0 => rfl
  | k + 1 => by rw [ones, ones_comm k, List.append_assoc, ones_comm k]
theorem chain_ones : ∀ k, ones k ++ [108, 0] = chainB k
  | 0 => rfl
  | k + 1 => by rw [ones, ones_comm, List.append_assoc, chain_ones k]; rfl
theorem deep_t {R : Hp} (n : Int) (hn : IntKind.u8.min ≤ n ∧ n ≤ IntKind.u8.max) : Tri Try.prog 4 [.int .u8 n] R [] (fun v _ _ => v = .bool true) := by
  have hn2 : 0 ≤ n ∧ n ≤ 255 := hn
  obtain ⟨n, rfl⟩ := Int.eq_ofNat_of_zero_le hn2.1
  refine tri_of Try.func4 rfl Try.ntmps4 rfl (fun σ F Q hret hend hpan => ?_)
  try simp only [List.cons_append, List.nil_append]
  refine cj_env (Env.le_cons (t := 0) rfl (Env.le_nil _)) ?_
  refine cj_seq (fun K1 hK1 => ?_)
  refine cj_region ?_
  refine rj_val (wn0 rfl) rfl rfl (y_assign rfl) ?_
  refine rj_nil ?_
  refine hK1 _ _ _ ?_
  refine cj_seq (fun K2 hK2 => ?_)
  refine cj_seq (fun K3 hK3 => ?_)
  refine cj_region ?_
  refine rj_call (wn0 rfl) rfl Try.call9 rfl (awake_t) (by (repeat (first | exact Split.nil _ | (apply Split.cons; focus (repeat (first | exact Find.head _ | apply Find.tail)))))) (fun _ _ _ _ h => h.elim) ?_
  rintro v R0 L' hR0 ⟨rfl, rfl⟩
  try simp only [List.cons_append, List.nil_append]
  refine rj_val (wn0 rfl) rfl rfl (y_not rfl) ?_
  refine rj_nil ?_
  refine hK3 _ _ _ ?_
  refine cj_cond_f rfl ?_
  refine cj_skip ?_
  refine hK2 _ _ _ ?_
  refine cj_env (Env.le_cons (t := 0) rfl (Env.le_nil _)) ?_
  refine cj_seq (fun K4 hK4 => ?_)
  refine cj_seq (fun K5 hK5 => ?_)
  refine cj_region ?_
  refine rj_val (wn0 rfl) rfl rfl (y_move rfl) ?_
  refine rj_val (wn0 rfl) rfl rfl (y_lss rfl rfl) ?_
  refine rj_val (wn0 rfl) rfl rfl (y_move rfl) ?_
  refine rj_part 14 rfl (fun hg14 => ?_) (fun hg14 => ?_)
  · try simp only [decide_eq_true_eq, decide_eq_false_iff_not, Bool.not_eq_true', Bool.not_eq_false', Bool.true_eq_false, Bool.false_eq_true] at hg14
    refine rj_skip (wn2 rfl rfl rfl rfl rfl) rfl rfl ?_
    refine rj_skip (wn2 rfl rfl rfl rfl rfl) rfl rfl ?_
    refine rj_val (wn0 rfl) rfl rfl (y_pick_t rfl rfl) ?_
    refine rj_nil ?_
    refine hK5 _ _ _ ?_
    refine cj_env (Env.le_cons (t := 0) rfl (Env.le_cons (t := 17) rfl (Env.le_nil _))) ?_
    refine cj_cond_t rfl ?_
    refine cj_seq (fun K6 hK6 => ?_)
    refine cj_region ?_
    refine rj_val (wn0 rfl) rfl rfl (y_assign rfl) ?_
    refine rj_nil ?_
    refine hK6 _ _ _ ?_
    refine cj_ret ?_
    refine hret _ _ _ ?_
    apply ej_ret Try.results4 (.cons (rv_tmp rfl) .nil) _ [] (by first | exact Hp.le_trans hr hR4 | exact hR0) rfl
    case hp => rfl
    case hS => (repeat (first | exact Sub.refl _ | (apply Sub.pick; focus (repeat (first | exact Find.head _ | apply Find.tail))) | apply Sub.drop))
  · try simp only [decide_eq_true_eq, decide_eq_false_iff_not, Bool.not_eq_true', Bool.not_eq_false', Bool.true_eq_false, Bool.false_eq_true] at hg14
    refine rj_val (wn1 rfl rfl rfl rfl) rfl rfl (y_move rfl) ?_
    refine rj_val (wn1 rfl rfl rfl rfl) rfl rfl (y_gtr rfl rfl) ?_
    refine rj_val (wn0 rfl) rfl rfl (y_pick_f rfl rfl) ?_
    refine rj_nil ?_
    refine hK5 _ _ _ ?_
    refine cj_env (Env.le_cons (t := 0) rfl (Env.le_cons (t := 17) rfl (Env.le_nil _))) ?_
    refine cj_cond rfl (fun hc17 => ?_) (fun hc17 => ?_)
    · try simp only [decide_eq_true_eq, decide_eq_false_iff_not, Bool.not_eq_true', Bool.not_eq_false', Bool.true_eq_false, Bool.false_eq_true] at hc17
      refine cj_seq (fun K8 hK8 => ?_)
      refine cj_region ?_
      refine rj_val (wn0 rfl) rfl rfl (y_assign rfl) ?_
      refine rj_nil ?_
      refine hK8 _ _ _ ?_
      refine cj_ret ?_
      refine hret _ _ _ ?_
      apply ej_ret Try.results4 (.cons (rv_tmp rfl) .nil) _ [] (by first | exact Hp.le_trans hr hR4 | exact hR0) rfl
      case hp => rfl
      case hS => (repeat (first | exact Sub.refl _ | (apply Sub.pick; focus (repeat (first | exact Find.head _ | apply Find.tail))) | apply Sub.drop))
    · (try simp only [decide_eq_true_eq, decide_eq_false_iff_not, Bool.not_eq_true', Bool.not_eq_false', Bool.true_eq_false, Bool.false_eq_true] at hc17); obtain ⟨k, rfl⟩ : ∃ k, n = k + 1 := ⟨n - 1, by omega⟩
      have hk30 : k < 30 := by (try simp at hc17); omega
      refine cj_skip ?_
      refine hK4 _ _ _ ?_
      refine cj_seq (fun K9 hK9 => ?_)
      refine cj_region ?_
      refine rj_add (A := slc 26 4 (.slice none 0 0) 0 []) (slc_nil _ _) ?_
      refine rj_call (wn0 rfl) rfl Try.call14 rfl (mkL_t (.slice none 0 0) [] [] ⟨rfl, fun i x cs h _ => by simp at h⟩ (by simp)) (by (repeat (first | exact Split.nil _ | (apply Split.cons; focus (repeat (first | exact Find.head _ | apply Find.tail)))))) (fun _ _ _ _ h => h.elim) ?_
      rintro r R1 L' hR1 ⟨⟨cy, rfl, hy⟩, rfl⟩
      obtain ⟨k0, n0, st0, l0, q0, cap0, he0, rfl, _⟩ := id hy.inv
      try simp only [List.cons_append, List.nil_append]
      refine rj_alloc (wn0 rfl) rfl Try.zeroValue26 rfl (fun b3 => ?_)
      refine rj_stores ⟨Try.isAgg26, Try.sizeOf26⟩ rfl (wn0 rfl) rfl rfl (by (first | (simp [Value.oneCell']; done) | (intro u hu; simp only [List.mem_cons, List.not_mem_nil, or_false] at hu; rcases hu with rfl | rfl | rfl | rfl <;> first | rfl | assumption))) (by ((repeat (first | exact Find.head _ | apply Find.tail)); done)) (by (simp)) rfl ?_
      refine rj_nil ?_
      refine hK9 _ _ _ ?_
      refine cj_seq (fun K10 hK10 => ?_)
      refine cj_seq (fun K11 hK11 => ?_)
      refine cj_region ?_
      refine rj_val (wn0 rfl) rfl rfl (y_move rfl) ?_
      refine rj_val (wn0 rfl) rfl rfl (y_sub rfl rfl) ?_
      refine rj_eq 20 rfl (v' := .int .u8 (k : Int)) (by congr 1; rw [wrap_in (by simp only [IntKind.min, IntKind.max, IntKind.signed, IntKind.bits, Bool.false_eq_true, ite_false]; omega)]; omega) ?_
      refine rj_val (wn0 rfl) rfl rfl (y_move rfl) ?_
      refine rj_nil ?_
      refine hK11 _ _ _ ?_
      refine cj_env (Env.le_cons (t := 0) rfl (Env.le_cons (t := 3) rfl (Env.le_cons (t := 20) rfl (Env.le_cons (t := 21) rfl (Env.le_nil _))))) ?_
      refine cj_block ?_
      refine cj_env (E' := (fun (x : Nat × List Value × Hp) => [(0, .int .u8 ((k + 1 : Nat) : Int)), (3, .pointer (some ⟨b3, 0, none⟩)), (20, .int .u8 (k : Int)), (21, .int .u8 (x.1 : Int))]) (0, [.int .i64 k0, .int .u64 ((n0 : Nat) : Int), .string (str st0), .slice q0 l0.length cap0], R1)) (Env.le_cons rfl (Env.le_cons rfl (Env.le_cons rfl (Env.le_cons rfl (Env.le_nil _))))) ?_
      refine cj_sub (M := (fun (x : Nat × List Value × Hp) => blk b3 x.2.1 26 :: F) (0, [.int .i64 k0, .int .u64 ((n0 : Nat) : Int), .string (str st0), .slice q0 l0.length cap0], R1)) (by (repeat (first | exact Sub.refl _ | (apply Sub.pick; focus (repeat (first | exact Find.head _ | apply Find.tail))) | apply Sub.drop))) ?_
      refine cj_loop (fun (x : Nat × List Value × Hp) => [(0, .int .u8 ((k + 1 : Nat) : Int)), (3, .pointer (some ⟨b3, 0, none⟩)), (20, .int .u8 (k : Int)), (21, .int .u8 (x.1 : Int))]) (fun (x : Nat × List Value × Hp) => x.2.2) (fun (x : Nat × List Value × Hp) => blk b3 x.2.1 26 :: F) (fun (x : Nat × List Value × Hp) => R.le x.2.2 ∧ x.1 ≤ k ∧ RepN x.2.2 (chain x.1) x.2.1) (fun (x : Nat × List Value × Hp) => k - x.1) (0, [.int .i64 k0, .int .u64 ((n0 : Nat) : Int), .string (str st0), .slice q0 l0.length cap0], R1) (⟨Hp.le_trans hR0 hR1, by simp, hy⟩) ?_
      rintro ⟨i, cx, R2⟩ ⟨hr, hi, hx⟩
      try dsimp only
      dsimp only at hr hi hx
      obtain ⟨k1, n1, st1, l1, q1, cap1, he1, rfl, _⟩ := id hx.inv
      refine cj_seq (fun K12 hK12 => ?_)
      refine cj_region ?_
      refine rj_val (wn0 rfl) rfl rfl (y_lss rfl rfl) ?_
      refine rj_nil ?_
      refine hK12 _ _ _ ?_
      refine cj_seq (fun K13 hK13 => ?_)
      refine cj_cond rfl (fun hc22 => ?_) (fun hc22 => ?_)
      · try simp only [decide_eq_true_eq, decide_eq_false_iff_not, Bool.not_eq_true', Bool.not_eq_false', Bool.true_eq_false, Bool.false_eq_true] at hc22
        refine cj_skip ?_
        refine hK13 _ _ _ ?_
        refine cj_seq (fun K15 hK15 => ?_)
        refine cj_block ?_
        refine cj_region ?_
        first | refine rj_val (wn0 rfl) rfl rfl (y_loads_blk ⟨Try.isAgg26, Try.sizeOf26⟩ rfl (by ((repeat (first | exact Find.head _ | apply Find.tail)); done)) rfl rfl) ?_ | refine rj_val (wn0 rfl) rfl rfl (y_loads_slc ⟨Try.isAgg26, Try.sizeOf26⟩ rfl (by ((repeat (first | exact Find.head _ | apply Find.tail)); done)) rfl rfl (by (first | omega | (dsimp only; omega) | (simp; done) | (simp; omega)))) ?_
        refine rj_buildSlice (sz := 4) (wn0 rfl) rfl Try.underlying24 Try.sizeOf26 Try.zeroValue26 rfl rfl rfl (by decide) (by decide) (fun bs => ?_)
        refine rj_call (wn0 rfl) rfl Try.call14 rfl (mkL_t _ [chain i] [[.int .i64 k1, .int .u64 ((n1 : Nat) : Int), .string (str st1), .slice q1 l1.length cap1]] (chain_kids hx) (by simp)) (by (repeat (first | exact Split.nil _ | (apply Split.cons; focus (repeat (first | exact Find.head _ | apply Find.tail)))))) (fun _ _ _ _ h => h.elim) ?_
        rintro r R3 L' hR3 ⟨⟨cz, rfl, hz⟩, rfl⟩
        obtain ⟨k2, n2, st2, l2, q2, cap2, he2, rfl, _⟩ := id hz.inv
        try simp only [List.cons_append, List.nil_append]
        refine rj_stores ⟨Try.isAgg26, Try.sizeOf26⟩ rfl (wn0 rfl) rfl rfl (by (first | (simp [Value.oneCell']; done) | (intro u hu; simp only [List.mem_cons, List.not_mem_nil, or_false] at hu; rcases hu with rfl | rfl | rfl | rfl <;> first | rfl | assumption))) (by ((repeat (first | exact Find.head _ | apply Find.tail)); done)) (by (simp)) rfl ?_
        refine rj_nil ?_
        refine hK15 _ _ _ ?_
        refine cj_env (Env.le_cons (t := 0) rfl (Env.le_cons (t := 3) rfl (Env.le_cons (t := 20) rfl (Env.le_cons (t := 21) rfl (Env.le_nil _))))) ?_
        refine cj_region ?_
        refine rj_val (wn0 rfl) rfl rfl (y_add rfl rfl) ?_
        refine rj_eq 26 rfl (v' := .int .u8 ((i + 1 : Nat) : Int)) (by congr 1; rw [wrap_in (by simp only [IntKind.min, IntKind.max, IntKind.signed, IntKind.bits, Bool.false_eq_true, ite_false]; omega)]; omega) ?_
        refine rj_val (wn0 rfl) rfl rfl (y_move rfl) ?_
        refine rj_nil ?_
        refine ej_on (q' := roundK _ _ _ _ _ _ _) rfl ?_
        refine ej_round ((i + 1, [.int .i64 k2, .int .u64 ((n2 : Nat) : Int), .string (str st2), .slice q2 l2.length cap2], R3)) (⟨Hp.le_trans hr hR3, by dsimp only; omega, hz⟩) (by dsimp only; omega) (Env.le_cons rfl (Env.le_cons rfl (Env.le_cons rfl (Env.le_cons rfl (Env.le_nil _))))) rfl (by (repeat (first | exact Sub.refl _ | (apply Sub.pick; focus (repeat (first | exact Find.head _ | apply Find.tail))) | apply Sub.drop)))
      · try simp only [decide_eq_true_eq, decide_eq_false_iff_not, Bool.not_eq_true', Bool.not_eq_false', Bool.true_eq_false, Bool.false_eq_true] at hc22
        refine cj_exit ?_
        refine hK10 _ _ _ ?_
        refine cj_env (Env.le_cons (t := 0) rfl (Env.le_cons (t := 3) rfl (Env.le_nil _))) ?_
        refine cj_seq (fun K16 hK16 => ?_)
        refine cj_region ?_
        obtain rfl : i = k := by (try simp at hc22); omega
        have hwr := chain_write i hk30
        have hrd := chain_read i hk30
        first | refine rj_val (wn0 rfl) rfl rfl (y_loads_blk ⟨Try.isAgg26, Try.sizeOf26⟩ rfl (by ((repeat (first | exact Find.head _ | apply Find.tail)); done)) rfl rfl) ?_ | refine rj_val (wn0 rfl) rfl rfl (y_loads_slc ⟨Try.isAgg26, Try.sizeOf26⟩ rfl (by ((repeat (first | exact Find.head _ | apply Find.tail)); done)) rfl rfl (by (first | omega | (dsimp only; omega) | (simp; done) | (simp; omega)))) ?_
        refine rj_val (wn0 rfl) rfl rfl (y_call Try.call13 rfl (write_t _ _ hx (chain_ok i)) (by (repeat (first | exact Split.nil _ | (apply Split.cons; focus (repeat (first | exact Find.head _ | apply Find.tail))))))) ?_
        refine rj_val (wn0 rfl) rfl rfl (y_move rfl) ?_
        refine rj_val (wn0 rfl) rfl rfl (y_extract rfl rfl) ?_
        refine rj_val (wn0 rfl) rfl rfl (y_extract rfl rfl) ?_
        refine rj_val (wn0 rfl) rfl rfl (y_assign rfl) ?_
        refine rj_val (wn0 rfl) rfl rfl (y_assign rfl) ?_
        refine rj_nil ?_
        refine hK16 _ _ _ ?_
        refine cj_env (Env.le_cons (t := 0) rfl (Env.le_cons (t := 3) rfl (Env.le_cons (t := 4) rfl (Env.le_cons (t := 5) rfl (Env.le_nil _))))) ?_
        refine cj_seq (fun K17 hK17 => ?_)
        refine cj_region ?_
        refine rj_val (wn0 rfl) rfl rfl (y_assign rfl) ?_
        refine rj_nil ?_
        refine hK17 _ _ _ ?_
        refine cj_seq (fun K18 hK18 => ?_)
        refine cj_seq (fun K19 hK19 => ?_)
        refine cj_region ?_
        refine rj_val (wn0 rfl) rfl rfl (y_move rfl) ?_
        refine rj_val (wn0 rfl) rfl rfl (y_move rfl) ?_
        refine rj_nil ?_
        refine hK19 _ _ _ ?_
        refine cj_block ?_
        refine cj_env (E' := (fun (x : Nat × List UInt8) => [(0, .int .u8 ((i + 1 : Nat) : Int)), (3, .pointer (some ⟨b3, 0, none⟩)), (4, .string (str (writeM (chain i)).1)), (5, .bool (writeM (chain i)).2), (6, .string (str x.2)), (32, .int .u8 ((i + 1 : Nat) : Int)), (33, .int .u8 (x.1 : Int))]) (0, [])) (Env.le_cons rfl (Env.le_cons rfl (Env.le_cons rfl (Env.le_cons rfl (Env.le_cons rfl (Env.le_cons rfl (Env.le_cons rfl (Env.le_nil _)))))))) ?_
        refine cj_sub (M := (fun (x : Nat × List UInt8) => blk b3 [.int .i64 k1, .int .u64 ((n1 : Nat) : Int), .string (str st1), .slice q1 l1.length cap1] 26 :: F) (0, [])) (by (repeat (first | exact Sub.refl _ | (apply Sub.pick; focus (repeat (first | exact Find.head _ | apply Find.tail))) | apply Sub.drop))) ?_
        refine cj_loop (fun (x : Nat × List UInt8) => [(0, .int .u8 ((i + 1 : Nat) : Int)), (3, .pointer (some ⟨b3, 0, none⟩)), (4, .string (str (writeM (chain i)).1)), (5, .bool (writeM (chain i)).2), (6, .string (str x.2)), (32, .int .u8 ((i + 1 : Nat) : Int)), (33, .int .u8 (x.1 : Int))]) (fun (x : Nat × List UInt8) => R2) (fun (x : Nat × List UInt8) => blk b3 [.int .i64 k1, .int .u64 ((n1 : Nat) : Int), .string (str st1), .slice q1 l1.length cap1] 26 :: F) (fun (x : Nat × List UInt8) => x.1 ≤ i + 1 ∧ (x.1 ≤ i → x.2 = ones x.1) ∧ (x.1 = i + 1 → x.2 = chainB i)) (fun (x : Nat × List UInt8) => i + 1 - x.1) (0, []) (⟨by simp, fun _ => rfl, fun h => by simp at h⟩) ?_
        rintro ⟨j, tx⟩ ⟨hj, ht, ht2⟩
        try dsimp only
        dsimp only at hj ht ht2
        refine cj_seq (fun K20 hK20 => ?_)
        refine cj_region ?_
        refine rj_val (wn0 rfl) rfl rfl (y_lss rfl rfl) ?_
        refine rj_nil ?_
        refine hK20 _ _ _ ?_
        refine cj_seq (fun K21 hK21 => ?_)
        refine cj_cond rfl (fun hc34 => ?_) (fun hc34 => ?_)
        · try simp only [decide_eq_true_eq, decide_eq_false_iff_not, Bool.not_eq_true', Bool.not_eq_false', Bool.true_eq_false, Bool.false_eq_true] at hc34
          refine cj_skip ?_
          refine hK21 _ _ _ ?_
          refine cj_seq (fun K23 hK23 => ?_)
          refine cj_block ?_
          refine cj_seq (fun K24 hK24 => ?_)
          refine cj_region ?_
          refine rj_val (wn0 rfl) rfl rfl (y_move rfl) ?_
          refine rj_val (wn0 rfl) rfl rfl (y_assign rfl) ?_
          refine rj_nil ?_
          refine hK24 _ _ _ ?_
          refine cj_seq (fun K25 hK25 => ?_)
          refine cj_region ?_
          have htl : tx.length ≤ 60 := by rw [ht (by (try simp at hc34); omega), ones_len]; omega
          refine rj_val (wn0 rfl) rfl rfl (y_move rfl) ?_
          refine rj_val (wn0 rfl) rfl rfl (y_move rfl) ?_
          refine rj_val (wn0 rfl) rfl rfl (y_sub rfl rfl) ?_
          refine rj_eq 38 rfl (v' := .int .u8 (i : Int)) (by congr 1; rw [wrap_in (by simp only [IntKind.min, IntKind.max, IntKind.signed, IntKind.bits, Bool.false_eq_true, ite_false]; omega)]; omega) ?_
          refine rj_val (wn0 rfl) rfl rfl (y_eql rfl rfl) ?_
          refine rj_nil ?_
          refine hK25 _ _ _ ?_
          refine cj_env (Env.le_cons (t := 0) rfl (Env.le_cons (t := 3) rfl (Env.le_cons (t := 4) rfl (Env.le_cons (t := 5) rfl (Env.le_cons (t := 6) rfl (Env.le_cons (t := 32) rfl (Env.le_cons (t := 33) rfl (Env.le_cons (t := 39) rfl (Env.le_nil _))))))))) ?_
          refine cj_cond rfl (fun hc39 => ?_) (fun hc39 => ?_)
          · try simp only [decide_eq_true_eq, decide_eq_false_iff_not, Bool.not_eq_true', Bool.not_eq_false', Bool.true_eq_false, Bool.false_eq_true] at hc39
            refine cj_region ?_
            refine rj_val (wn0 rfl) rfl rfl (y_move rfl) ?_
            refine rj_val (wn0 rfl) rfl rfl (y_sadd rfl rfl (by (first | omega | (dsimp only; omega) | (simp; done) | (simp; omega)))) ?_
            refine rj_val (wn0 rfl) rfl rfl (y_assign rfl) ?_
            refine rj_nil ?_
            refine hK23 _ _ _ ?_
            refine cj_env (Env.le_cons (t := 0) rfl (Env.le_cons (t := 3) rfl (Env.le_cons (t := 4) rfl (Env.le_cons (t := 5) rfl (Env.le_cons (t := 6) rfl (Env.le_cons (t := 32) rfl (Env.le_cons (t := 33) rfl (Env.le_nil _)))))))) ?_
            refine cj_region ?_
            refine rj_val (wn0 rfl) rfl rfl (y_add rfl rfl) ?_
            refine rj_eq 44 rfl (v' := .int .u8 ((j + 1 : Nat) : Int)) (by congr 1; rw [wrap_in (by simp only [IntKind.min, IntKind.max, IntKind.signed, IntKind.bits, Bool.false_eq_true, ite_false]; omega)]; omega) ?_
            refine rj_val (wn0 rfl) rfl rfl (y_move rfl) ?_
            refine rj_nil ?_
            refine ej_on (q' := roundK _ _ _ _ _ _ _) rfl ?_
            refine ej_round ((j + 1, tx ++ [108, 0])) (⟨by dsimp only; omega, fun h => by dsimp only at h; (try simp at hc39); omega, fun h => by dsimp only at h ⊢; rw [ht (by omega), show j = i by omega, chain_ones]⟩) (by dsimp only; omega) (Env.le_cons rfl (Env.le_cons rfl (Env.le_cons rfl (Env.le_cons rfl (Env.le_cons rfl (Env.le_cons rfl (Env.le_cons rfl (Env.le_nil _)))))))) rfl (by (repeat (first | exact Sub.refl _ | (apply Sub.pick; focus (repeat (first | exact Find.head _ | apply Find.tail))) | apply Sub.drop)))
          · try simp only [decide_eq_true_eq, decide_eq_false_iff_not, Bool.not_eq_true', Bool.not_eq_false', Bool.true_eq_false, Bool.false_eq_true] at hc39
            refine cj_region ?_
            refine rj_val (wn0 rfl) rfl rfl (y_move rfl) ?_
            refine rj_val (wn0 rfl) rfl rfl (y_sadd rfl rfl (by (first | omega | (dsimp only; omega) | (simp; done) | (simp; omega)))) ?_
            refine rj_val (wn0 rfl) rfl rfl (y_assign rfl) ?_
            refine rj_nil ?_
            refine hK23 _ _ _ ?_
            refine cj_env (Env.le_cons (t := 0) rfl (Env.le_cons (t := 3) rfl (Env.le_cons (t := 4) rfl (Env.le_cons (t := 5) rfl (Env.le_cons (t := 6) rfl (Env.le_cons (t := 32) rfl (Env.le_cons (t := 33) rfl (Env.le_nil _)))))))) ?_
            refine cj_region ?_
            refine rj_val (wn0 rfl) rfl rfl (y_add rfl rfl) ?_
            refine rj_eq 44 rfl (v' := .int .u8 ((j + 1 : Nat) : Int)) (by congr 1; rw [wrap_in (by simp only [IntKind.min, IntKind.max, IntKind.signed, IntKind.bits, Bool.false_eq_true, ite_false]; omega)]; omega) ?_
            refine rj_val (wn0 rfl) rfl rfl (y_move rfl) ?_
            refine rj_nil ?_
            refine ej_on (q' := roundK _ _ _ _ _ _ _) rfl ?_
            refine ej_round ((j + 1, tx ++ [108, 1])) (⟨by dsimp only; omega, fun h => by dsimp only at h ⊢; rw [ht (by omega)]; rfl, fun h => by dsimp only at h; (try simp at hc39); omega⟩) (by dsimp only; omega) (Env.le_cons rfl (Env.le_cons rfl (Env.le_cons rfl (Env.le_cons rfl (Env.le_cons rfl (Env.le_cons rfl (Env.le_cons rfl (Env.le_nil _)))))))) rfl (by (repeat (first | exact Sub.refl _ | (apply Sub.pick; focus (repeat (first | exact Find.head _ | apply Find.tail))) | apply Sub.drop)))
        · try simp only [decide_eq_true_eq, decide_eq_false_iff_not, Bool.not_eq_true', Bool.not_eq_false', Bool.true_eq_false, Bool.false_eq_true] at hc34
          refine cj_exit ?_
          refine hK18 _ _ _ ?_
          refine cj_env (Env.le_cons (t := 0) rfl (Env.le_cons (t := 3) rfl (Env.le_cons (t := 4) rfl (Env.le_cons (t := 5) rfl (Env.le_cons (t := 6) rfl (Env.le_nil _)))))) ?_
          refine cj_seq (fun K27 hK27 => ?_)
          refine cj_region ?_
          obtain rfl : tx = chainB i := ht2 (by (try simp at hc34); omega)
          have hcl := chainB_len i
          refine rj_val (wn0 rfl) rfl rfl (y_move rfl) ?_
          refine rj_call (wn0 rfl) rfl Try.call10 rfl (read_t (chainB i) (by rw [hcl]; unfold big; omega)) (by (repeat (first | exact Split.nil _ | (apply Split.cons; focus (repeat (first | exact Find.head _ | apply Find.tail)))))) (fun _ _ _ _ h => h.elim) ?_
          rintro r R4 L' hR4 ⟨cn, rfl, hn4, rfl⟩
          obtain ⟨k4, n4, st4, l4, q4, cap4, he4, rfl, _⟩ := id hn4.inv
          rw [hwr, hrd]
          try simp only [List.cons_append, List.nil_append]
          refine rj_val (wn0 rfl) rfl rfl (y_move rfl) ?_
          refine rj_val (wn0 rfl) rfl rfl (y_extract rfl rfl) ?_
          refine rj_val (wn0 rfl) rfl rfl (y_extract rfl rfl) ?_
          refine rj_alloc (wn0 rfl) rfl Try.zeroValue26 rfl (fun b8 => ?_)
          refine rj_stores ⟨Try.isAgg26, Try.sizeOf26⟩ rfl (wn0 rfl) rfl rfl (by (first | (simp [Value.oneCell']; done) | (intro u hu; simp only [List.mem_cons, List.not_mem_nil, or_false] at hu; rcases hu with rfl | rfl | rfl | rfl <;> first | rfl | assumption))) (by ((repeat (first | exact Find.head _ | apply Find.tail)); done)) (by (simp)) rfl ?_
          refine rj_val (wn0 rfl) rfl rfl (y_assign rfl) ?_
          refine rj_nil ?_
          refine hK27 _ _ _ ?_
          refine cj_env (Env.le_cons (t := 0) rfl (Env.le_cons (t := 3) rfl (Env.le_cons (t := 4) rfl (Env.le_cons (t := 5) rfl (Env.le_cons (t := 6) rfl (Env.le_cons (t := 9) rfl (Env.le_nil _))))))) ?_
          refine cj_seq (fun K28 hK28 => ?_)
          refine cj_region ?_
          refine rj_val (wn0 rfl) rfl rfl (y_move rfl) ?_
          refine rj_val (wn0 rfl) rfl rfl (y_move rfl) ?_
          refine rj_val (wn0 rfl) rfl rfl (y_leq rfl rfl) ?_
          refine rj_val (wn0 rfl) rfl rfl (y_beql Try.underlying4 rfl rfl) ?_
          refine rj_eq 53 rfl (v' := .bool true) (by split <;> simp <;> omega) ?_
          refine rj_val (wn0 rfl) rfl rfl (y_move rfl) ?_
          refine rj_val (wn1 rfl rfl rfl rfl) rfl rfl (y_move rfl) ?_
          refine rj_val (wn1 rfl rfl rfl rfl) rfl rfl (y_move rfl) ?_
          refine rj_val (wn1 rfl rfl rfl rfl) rfl rfl (y_beql Try.underlying4 rfl rfl) ?_
          refine rj_eq 57 rfl (v' := .bool true) (by split <;> simp <;> omega) ?_
          refine rj_val (wn0 rfl) rfl rfl (y_pick_t rfl rfl) ?_
          refine rj_val (wn0 rfl) rfl rfl (y_move rfl) ?_
          first | refine rj_val (wn1 rfl rfl rfl rfl) rfl rfl (y_loads_blk ⟨Try.isAgg26, Try.sizeOf26⟩ rfl (by ((repeat (first | exact Find.head _ | apply Find.tail)); done)) rfl rfl) ?_ | refine rj_val (wn1 rfl rfl rfl rfl) rfl rfl (y_loads_slc ⟨Try.isAgg26, Try.sizeOf26⟩ rfl (by ((repeat (first | exact Find.head _ | apply Find.tail)); done)) rfl rfl (by (first | omega | (dsimp only; omega) | (simp; done) | (simp; omega)))) ?_
          refine rj_val (wn1 rfl rfl rfl rfl) rfl rfl (y_call Try.call15 rfl (isRight_q _ _ (hx.mono hR4)) (by (repeat (first | exact Split.nil _ | (apply Split.cons; focus (repeat (first | exact Find.head _ | apply Find.tail))))))) ?_
          refine rj_val (wn1 rfl rfl rfl rfl) rfl rfl (y_move rfl) ?_
          refine rj_val (wn1 rfl rfl rfl rfl) rfl rfl (y_beql Try.underlying4 rfl rfl) ?_
          refine rj_eq 63 rfl (v' := .bool true) (by rw [chain_right]; split <;> simp <;> omega) ?_
          refine rj_val (wn0 rfl) rfl rfl (y_pick_t rfl rfl) ?_
          refine rj_val (wn0 rfl) rfl rfl (y_move rfl) ?_
          refine rj_val (wn1 rfl rfl rfl rfl) rfl rfl (y_move rfl) ?_
          refine rj_val (wn1 rfl rfl rfl rfl) rfl rfl (y_not rfl) ?_
          refine rj_val (wn1 rfl rfl rfl rfl) rfl rfl (y_move rfl) ?_
          refine rj_part 68 rfl (fun hg68 => ?_) (fun hg68 => ?_)
          · try simp only [decide_eq_true_eq, decide_eq_false_iff_not, Bool.not_eq_true', Bool.not_eq_false', Bool.true_eq_false, Bool.false_eq_true] at hg68
            refine rj_skip (wn2 rfl rfl rfl rfl rfl) rfl rfl ?_
            refine rj_skip (wn2 rfl rfl rfl rfl rfl) rfl rfl ?_
            refine rj_skip (wn2 rfl rfl rfl rfl rfl) rfl rfl ?_
            refine rj_val (wn1 rfl rfl rfl rfl) rfl rfl (y_pick_t rfl rfl) ?_
            refine rj_val (wn0 rfl) rfl rfl (y_pick_t rfl rfl) ?_
            refine rj_val (wn0 rfl) rfl rfl (y_assign rfl) ?_
            refine rj_nil ?_
            refine hK28 _ _ _ ?_
            refine cj_env (Env.le_cons (t := 2) rfl (Env.le_nil _)) ?_
            refine cj_ret ?_
            refine hret _ _ _ ?_
            apply ej_ret Try.results4 (.cons (rv_tmp rfl) .nil) _ [] (by first | exact Hp.le_trans hr hR4 | exact hR0) rfl
            case hp => rfl
            case hS => (repeat (first | exact Sub.refl _ | (apply Sub.pick; focus (repeat (first | exact Find.head _ | apply Find.tail))) | apply Sub.drop))
          · (try simp only [decide_eq_true_eq, decide_eq_false_iff_not, Bool.not_eq_true', Bool.not_eq_false', Bool.true_eq_false, Bool.false_eq_true] at hg68); have h20 : i < 20 := by by_cases h : i < 20; exact h; rw [if_neg h] at hg68; simp at hg68
            rw [if_pos h20]
            refine rj_val (wn1 rfl rfl rfl rfl) rfl rfl (y_move rfl) ?_
            refine rj_val (wn1 rfl rfl rfl rfl) rfl rfl (y_move rfl) ?_
            refine rj_val (wn1 rfl rfl rfl rfl) rfl rfl (y_seql rfl rfl) ?_
            refine rj_eq 71 rfl (v' := .bool true) (by simp) ?_
            refine rj_val (wn1 rfl rfl rfl rfl) rfl rfl (y_pick_f rfl rfl) ?_
            refine rj_val (wn0 rfl) rfl rfl (y_pick_t rfl rfl) ?_
            refine rj_val (wn0 rfl) rfl rfl (y_assign rfl) ?_
            refine rj_nil ?_
            refine hK28 _ _ _ ?_
            refine cj_env (Env.le_cons (t := 2) rfl (Env.le_nil _)) ?_
            refine cj_ret ?_
            refine hret _ _ _ ?_
            apply ej_ret Try.results4 (.cons (rv_tmp rfl) .nil) _ [] (by first | exact Hp.le_trans hr hR4 | exact hR0) rfl
            case hp => rfl
            case hS => (repeat (first | exact Sub.refl _ | (apply Sub.pick; focus (repeat (first | exact Find.head _ | apply Find.tail))) | apply Sub.drop))
end V
end Go.Proofs.Ytcficaboohpmdaa
