/- The law EvalOrder, walked. -/
import Derived.Test.YtghgifgmacapcaaT18C
set_option linter.unusedSimpArgs false
set_option linter.unusedVariables false
set_option maxRecDepth 100000
namespace Go.Proofs.Ytghgifgmacapcaa
open Go.RowKit
namespace V
set_option maxHeartbeats 4000000
/-! ### the order, plain -/
theorem cb_neg : ∀ (a b : Bs), Lib.compareBytes a b = -Lib.compareBytes b a
  | [], [] => rfl
  | [], _ :: _ => rfl
  | _ :: _, [] => rfl
  | a :: l, b :: m => by
    have ih := cb_neg l m
    rw [Lib.compareBytes, Lib.compareBytes]
    by_cases h1 : a < b
    · have h2 : ¬ b < a := UInt8.not_lt.2 (UInt8.le_of_lt h1)
      simp [h1, h2]
    · by_cases h2 : b < a
      · simp [h1, h2]
      · simp [h1, h2, ih]
theorem cb_trans : ∀ (a b d : Bs), Lib.compareBytes a b ≤ 0 → Lib.compareBytes b d ≤ 0 → Lib.compareBytes a d ≤ 0
  | [], _, [], _, _ => by decide
  | [], _, _ :: _, _, _ => by simp [Lib.compareBytes]
  | _ :: _, [], _, h, _ => absurd h (by simp [Lib.compareBytes])
  | _ :: _, _ :: _, [], _, h => absurd h (by simp [Lib.compareBytes])
  | a :: l, b :: m, d :: n, h1, h2 => by
    have ih := cb_trans l m n
    rw [Lib.compareBytes] at h1 h2 ⊢
    by_cases ab : a < b
    · by_cases bd : b < d
      · rw [if_pos (UInt8.lt_trans ab bd)]; decide
      · by_cases db : d < b
        · rw [if_neg bd, if_pos db] at h2; exact absurd h2 (by decide)
        · have : b = d := UInt8.le_antisymm (UInt8.not_lt.1 db) (UInt8.not_lt.1 bd)
          subst this; rw [if_pos ab]; decide
    · by_cases ba : b < a
      · rw [if_neg ab, if_pos ba] at h1; exact absurd h1 (by decide)
      · have : a = b := UInt8.le_antisymm (UInt8.not_lt.1 ba) (UInt8.not_lt.1 ab)
        subst this
        rw [if_neg ab, if_neg ab] at h1
        by_cases ad : a < d
        · rw [if_pos ad]; decide
        · by_cases da : d < a
          · rw [if_neg ad, if_pos da] at h2; exact absurd h2 (by decide)
          · rw [if_neg ad, if_neg da] at h2 ⊢; exact ih h1 h2
theorem cb_self (a : Bs) : Lib.compareBytes a a = 0 := by have := cb_neg a a; omega
theorem cmpV_le (a b : Vl) : cmpV a b ≤ 0 ↔ a.kind < b.kind ∨ (a.kind = b.kind ∧ (a.n < b.n ∨ (a.n = b.n ∧ Lib.compareBytes a.s b.s ≤ 0))) := by
  unfold cmpV
  simp only [orI, cmpI]
  split <;> (split at * <;> first | omega | (split at * <;> omega)) <;> (try (split at * <;> omega))
theorem cmpV_ge (a b : Vl) : 0 ≤ cmpV a b ↔ b.kind < a.kind ∨ (a.kind = b.kind ∧ (b.n < a.n ∨ (a.n = b.n ∧ 0 ≤ Lib.compareBytes a.s b.s))) := by
  unfold cmpV
  simp only [orI, cmpI]
  split <;> (split at * <;> first | omega | (split at * <;> omega)) <;> (try (split at * <;> omega))
theorem cmpV_trans {a b d : Vl} (h1 : cmpV a b ≤ 0) (h2 : cmpV b d ≤ 0) : cmpV a d ≤ 0 := by
  have ht := cb_trans a.s b.s d.s
  rw [cmpV_le] at h1 h2 ⊢
  by_cases x : Lib.compareBytes a.s b.s ≤ 0
  · by_cases y : Lib.compareBytes b.s d.s ≤ 0
    · have := ht x y; omega
    · omega
  · omega
theorem cb_vals : ∀ (a b : Bs), Lib.compareBytes a b = -1 ∨ Lib.compareBytes a b = 0 ∨ Lib.compareBytes a b = 1
  | [], [] => .inr (.inl rfl)
  | [], _ :: _ => .inl rfl
  | _ :: _, [] => .inr (.inr rfl)
  | a :: l, b :: m => by
    have ih := cb_vals l m
    rw [Lib.compareBytes]
    split
    · exact .inl rfl
    · split
      · exact .inr (.inr rfl)
      · exact ih
theorem cmpI_vals (a b : Int) : cmpI a b = -1 ∨ cmpI a b = 0 ∨ cmpI a b = 1 := by unfold cmpI; split; exact .inl rfl; split; exact .inr (.inr rfl); exact .inr (.inl rfl)
theorem cmpV_vals (a b : Vl) : cmpV a b = -1 ∨ cmpV a b = 0 ∨ cmpV a b = 1 := by
  have h1 := cmpI_vals a.kind b.kind
  have h2 := cmpI_vals a.n b.n
  have h3 := cb_vals a.s b.s
  unfold cmpV
  simp only [orI]
  split
  · split
    · split
      · exact .inr (.inl rfl)
      · exact h3
    · exact h2
  · exact h1
theorem cmpV_neg (a b : Vl) : cmpV a b = -cmpV b a := by
  have h1 := cmpV_le a b
  have h2 := cmpV_ge b a
  have h3 := cmpV_ge a b
  have h4 := cmpV_le b a
  have h5 := cb_neg a.s b.s
  rcases cmpV_vals a b with h | h | h <;> rcases cmpV_vals b a with k | k | k <;> omega
theorem cmpV_self (a : Vl) : cmpV a a = 0 := by have := cmpV_neg a a; omega
theorem cmpV_eq (a b : Vl) : decide (cmpV a b = 0) = decide (a = b) := by
  by_cases h : cmpV a b = 0
  · have := cmpV_zero h; subst this; simp [h]
  · have : ¬ a = b := fun e => h (by rw [e]; exact cmpV_self b)
    simp [h, this]
theorem neg_small (a b : Vl) : Value.int .i64 (IntKind.i64.wrap (-(cmpV b a))) = .int .i64 (cmpV a b) := by
  rw [← cmpV_neg a b, wrap_i64_in]
  rcases cmpV_vals a b with h | h | h <;> rw [h] <;> decide
theorem ofV_cmp {op : Op} {x y : Vl} (h : op = .lt ∨ op = .eq) (hk : x.kind = y.kind) (hx : isV x = true) (hn : ¬ x.kind = 0) : ofV [] [] (.mk op Vl.zero [] [lit x, lit y]) = .ok (truthV (cmpB op (cmpV x y))) := by
  have h2 : fam op = 2 := by rcases h with rfl | rfl <;> rfl
  have ha : anyNull [x, y] = false := by simp [anyNull, hn, ← hk]
  rw [ofV_two (by rcases h with rfl | rfl <;> rfl)]
  · unfold vstep
    dsimp only
    rw [if_neg (by rcases h with rfl | rfl <;> decide), if_neg (by rcases h with rfl | rfl <;> decide), ha, if_neg (by decide), if_neg (by rcases h with rfl | rfl <;> decide), if_neg (by rcases h with rfl | rfl <;> decide), if_neg (by rcases h with rfl | rfl <;> decide), if_pos h2]
    rfl
  · unfold kstep
    dsimp only
    rw [if_neg (by decide), if_neg (by omega), if_pos h2, if_neg]
    rw [← hk]
    rcases isV_kok hx with e | e | e
    · exact absurd e hn
    · rw [e]; decide
    · rw [e]; decide
theorem true_truth (b : Bool) : trueV (truthV b) = b := by cases b <;> rfl
theorem evalOrder_t {R : Hp} (c0 : List Value) (zs : List (Int × Int × List UInt8)) (h0 : arrR 3 3 vlR R c0 zs) :
    Tri Try.prog 6 [.agg ⟨c0⟩] R [] (fun v _ _ => v = .bool true) := by
  obtain ⟨rfl, hll, hin⟩ := vals_in h0
  generalize zs.map vlOf = l at hll hin
  obtain ⟨a, b, d, rfl⟩ := three hll
  refine tri_of Try.func6 rfl Try.ntmps6 rfl (fun σ F Q hret hend hpan => ?_)
  try simp only [List.cons_append, List.nil_append]
  refine cj_env (eL 0 rfl eN) ?_
  refine cj_seq (fun K1 hK1 => ?_)
  refine cj_region ?_
  refine rj_box (wn0 rfl) rfl rfl rfl (fun b1 => ?_)
  refine rv0 rfl rfl rfl (y_assign rfl) ?_
  refine rj_nil ?_
  refine hK1 _ _ _ ?_
  refine cj_seq (fun K2 hK2 => ?_)
  refine cj_seq (fun K3 hK3 => ?_)
  refine cj_region ?_
  refine rj_call (wn0 rfl) rfl Try.call10 rfl (awake_t) (by (repeat (first|exact zN _|(apply zS;focus (repeat (first|exact zH _|apply zT)))))) (fun _ _ _ _ h => h.elim) ?_
  rintro v R0 L' hR0 ⟨rfl, rfl⟩
  try simp only [List.cons_append, List.nil_append]
  refine rv0 rfl rfl rfl (y_not rfl) ?_
  refine rj_nil ?_
  refine hK3 _ _ _ ?_
  refine cj_env (eL 1 rfl (eL 16 rfl eN)) ?_
  refine cj_cond_f rfl ?_
  refine cj_skip ?_
  refine hK2 _ _ _ ?_
  refine cj_seq (fun K4 hK4 => ?_)
  refine cj_seq (fun K5 hK5 => ?_)
  refine cj_region ?_
  refine rv0 rfl rfl rfl ((y_loads_all (vs := valsC [a, b, d]) ⟨Try.isAgg41, Try.sizeOf41⟩ rfl rfl (by (repeat (first|exact zH _|apply zT));done))) ?_
  refine rv0 rfl rfl rfl (y_call Try.call17 rfl (few_q [a, b, d] rfl) (by (repeat (first|exact zN _|(apply zS;focus (repeat (first|exact zH _|apply zT))))))) ?_
  refine rv0 rfl rfl rfl (y_not rfl) ?_
  refine rj_nil ?_
  refine hK5 _ _ _ ?_
  refine cj_env (eL 1 rfl (eL 19 rfl eN)) ?_
  refine cj_cond rfl (fun hc19 => ?_) (fun hc19 => ?_)
  ·try simp only [dT, dF, nT, nF, tF, fT] at hc19
   refine cj_seq (fun K7 hK7 => ?_)
   refine cj_region ?_
   refine rv0 rfl rfl rfl (y_assign rfl) ?_
   refine rj_nil ?_
   refine hK7 _ _ _ ?_
   refine cj_ret ?_
   refine hret _ _ _ ?_
   apply ej_ret Try.results6 (.cons (rv_tmp rfl) .nil) _ [] (by first | exact hR0 | exact Hp.le_trans hR0 hR1) rfl
   case hp => rfl
   case hS => (repeat (first|exact zR _|(apply zP;focus (repeat (first|exact zH _|apply zT)))|apply zD|exact zA _ _))
  ·try simp only [dT, dF, nT, nF, tF, fT] at hc19
   refine cj_skip ?_
   refine hK4 _ _ _ ?_
   refine cj_seq (fun K8 hK8 => ?_)
   refine cj_seq (fun K9 hK9 => ?_)
   refine cj_region ?_
   refine rv0 rfl rfl rfl (y_move rfl) ?_
   refine rj_nil ?_
   refine hK9 _ _ _ ?_
   refine cj_block ?_
   refine cj_env (E' := (fun (x : Nat) => [(1, .pointer (some ⟨b1, 0, none⟩)), (20, .int .i64 (x : Int))]) 0) (eC rfl (eC rfl eN)) ?_
   refine cj_sub (M := (fun (x : Nat) => blk b1 (valsC [a, b, d]) 41 :: F) 0) (by (repeat (first|exact zR _|(apply zP;focus (repeat (first|exact zH _|apply zT)))|apply zD|exact zA _ _))) ?_
   refine cj_loop (fun (x : Nat) => [(1, .pointer (some ⟨b1, 0, none⟩)), (20, .int .i64 (x : Int))]) (fun (x : Nat) => R0) (fun (x : Nat) => blk b1 (valsC [a, b, d]) 41 :: F) (fun (x : Nat) => x ≤ 3 ∧ (([a, b, d] : List Vl).take x).all isV = true) (fun (x : Nat) => 3 - x) 0 (⟨by simp, by simp⟩) ?_
   rintro i ⟨hi, hok⟩
   try dsimp only
   refine cj_seq (fun K10 hK10 => ?_)
   refine cj_region ?_
   refine rv0 rfl rfl rfl (y_lss rfl rfl) ?_
   refine rj_nil ?_
   refine hK10 _ _ _ ?_
   refine cj_seq (fun K11 hK11 => ?_)
   refine cj_cond rfl (fun hc21 => ?_) (fun hc21 => ?_)
   ·try simp only [dT, dF, nT, nF, tF, fT] at hc21
    refine cj_skip ?_
    refine hK11 _ _ _ ?_
    refine cj_seq (fun K13 hK13 => ?_)
    refine cj_block ?_
    refine cj_seq (fun K14 hK14 => ?_)
    refine cj_region ?_
    have hi2 : i < 3 := by (try simp at hc21); omega
    obtain ⟨v, hv⟩ : ∃ v, ([a, b, d] : List Vl)[i]? = some v := ⟨_, List.getElem?_eq_getElem (by simpa using hi2)⟩
    have hvi := hin v (List.mem_of_getElem? hv)
    refine rv0 rfl rfl rfl (y_move rfl) ?_
    refine rv0 rfl rfl rfl (y_assign rfl) ?_
    refine rj_nil ?_
    refine hK14 _ _ _ ?_
    refine cj_seq (fun K15 hK15 => ?_)
    refine cj_region ?_
    refine rv0 rfl rfl rfl (y_move rfl) ?_
    refine rv0 rfl rfl rfl ((y_indexAddr_arr Try.underlying41 Try.sizeOf26 rfl rfl (by omega))) ?_
    refine rv0 rfl rfl rfl ((y_loads_blk (vs := valC v) ⟨Try.isAgg26, Try.sizeOf26⟩ rfl (by (repeat (first|exact zH _|apply zT));done) (by simpa using valsC_at hv) rfl)) ?_
    refine rv0 rfl rfl rfl (y_call Try.call23 rfl (is_q v hvi.2) (by (repeat (first|exact zN _|(apply zS;focus (repeat (first|exact zH _|apply zT))))))) ?_
    refine rv0 rfl rfl rfl (y_not rfl) ?_
    refine rj_nil ?_
    refine hK15 _ _ _ ?_
    refine cj_env (eL 1 rfl (eL 20 rfl (eL 27 rfl eN))) ?_
    refine cj_cond rfl (fun hc27 => ?_) (fun hc27 => ?_)
    ·try simp only [dT, dF, nT, nF, tF, fT] at hc27
     refine cj_seq (fun K17 hK17 => ?_)
     refine cj_region ?_
     refine rv0 rfl rfl rfl (y_assign rfl) ?_
     refine rj_nil ?_
     refine hK17 _ _ _ ?_
     refine cj_env (eL 2 rfl eN) ?_
     refine cj_ret ?_
     refine hret _ _ _ ?_
     apply ej_ret Try.results6 (.cons (rv_tmp rfl) .nil) _ [] (by first | exact hR0 | exact Hp.le_trans hR0 hR1) rfl
     case hp => rfl
     case hS => (repeat (first|exact zR _|(apply zP;focus (repeat (first|exact zH _|apply zT)))|apply zD|exact zA _ _))
    ·have hvv : isV v = true := by simpa using hc27
     refine cj_skip ?_
     refine hK13 _ _ _ ?_
     refine cj_region ?_
     first | refine rv0 rfl rfl rfl (y_add64 rfl rfl (by (first | omega | (dsimp only; omega) | (simp; done) | (simp; omega)))) ?_ | refine rv0 rfl rfl rfl (y_add rfl rfl) ?_
     refine rv0 rfl rfl rfl (y_move rfl) ?_
     refine rj_nil ?_
     refine ej_on (q' := roundK _ _ _ _ _ _ _) rfl ?_
     refine ej_round (i + 1) (⟨by omega, all_take hok hv hvv⟩) (by omega) (eC rfl (eC rfl eN)) rfl (by (repeat (first|exact zR _|(apply zP;focus (repeat (first|exact zH _|apply zT)))|apply zD|exact zA _ _)))
   ·try simp only [dT, dF, nT, nF, tF, fT] at hc21
    refine cj_exit ?_
    refine hK8 _ _ _ ?_
    refine cj_seq (fun K18 hK18 => ?_)
    have hJ12 : ∀ (x : Nat × Nat × Nat), isV a = true ∧ isV b = true → EJ ⟨Try.prog, 131, σ⟩ K18 [(4, .pointer (some ⟨x.1, 0, none⟩)), (5, .pointer (some ⟨x.2.1, 0, none⟩)), (6, .pointer (some ⟨x.2.2, 0, none⟩))] R0 (blk x.1 (valC a) 26 :: blk x.2.1 (valC b) 26 :: blk x.2.2 (valC d) 26 :: F) := by
     rintro ⟨b4, b5, b6⟩ ⟨va, vb⟩
     try dsimp only
     refine hK18 _ _ _ ?_
     refine cj_seq (fun K19 hK19 => ?_)
     refine cj_draw (by kernel_rfl) (by kernel_rfl) ?_
     refine qj_val (wn0 rfl) rfl rfl ((y_loads_all (vs := valC a) ⟨Try.isAgg26, Try.sizeOf26⟩ rfl rfl (by (repeat (first|exact zH _|apply zT));done))) ?_
     refine qj_val (wn0 rfl) rfl rfl ((y_loads_all (vs := valC b) ⟨Try.isAgg26, Try.sizeOf26⟩ rfl rfl (by (repeat (first|exact zH _|apply zT));done))) ?_
     refine qj_val (wn0 rfl) rfl rfl (y_call Try.call24 rfl (compare_q a b) (by (repeat (first|exact zN _|(apply zS;focus (repeat (first|exact zH _|apply zT))))))) ?_
     refine qj_val (wn0 rfl) rfl rfl ((y_loads_all (vs := valC b) ⟨Try.isAgg26, Try.sizeOf26⟩ rfl rfl (by (repeat (first|exact zH _|apply zT));done))) ?_
     refine qj_val (wn0 rfl) rfl rfl ((y_loads_all (vs := valC d) ⟨Try.isAgg26, Try.sizeOf26⟩ rfl rfl (by (repeat (first|exact zH _|apply zT));done))) ?_
     refine qj_val (wn0 rfl) rfl rfl (y_call Try.call24 rfl (compare_q b d) (by (repeat (first|exact zN _|(apply zS;focus (repeat (first|exact zH _|apply zT))))))) ?_
     refine qj_val (wn0 rfl) rfl rfl ((y_loads_all (vs := valC a) ⟨Try.isAgg26, Try.sizeOf26⟩ rfl rfl (by (repeat (first|exact zH _|apply zT));done))) ?_
     refine qj_val (wn0 rfl) rfl rfl ((y_loads_all (vs := valC d) ⟨Try.isAgg26, Try.sizeOf26⟩ rfl rfl (by (repeat (first|exact zH _|apply zT));done))) ?_
     refine qj_val (wn0 rfl) rfl rfl (y_call Try.call24 rfl (compare_q a d) (by (repeat (first|exact zN _|(apply zS;focus (repeat (first|exact zH _|apply zT))))))) ?_
     refine qj_val (wn0 rfl) rfl rfl (y_assign rfl) ?_
     refine qj_val (wn0 rfl) rfl rfl (y_assign rfl) ?_
     refine qj_val (wn0 rfl) rfl rfl (y_assign rfl) ?_
     refine qj_nil ?_
     refine hK19 _ _ _ ?_
     refine cj_env (eL 4 rfl (eL 5 rfl (eL 7 rfl (eL 8 rfl (eL 9 rfl eN))))) ?_
     refine cj_seq (fun K20 hK20 => ?_)
     have hJ15 : ∀ (x : Unit), True → EJ ⟨Try.prog, 131, σ⟩ K20 [(4, .pointer (some ⟨b4, 0, none⟩)), (5, .pointer (some ⟨b5, 0, none⟩)), (7, .int .i64 (cmpV a b))] R0 (blk b4 (valC a) 26 :: blk b5 (valC b) 26 :: F) := by
      rintro _ _
      try dsimp only
      refine hK20 _ _ _ ?_
      refine cj_seq (fun K21 hK21 => ?_)
      refine cj_seq (fun K22 hK22 => ?_)
      refine cj_region ?_
      refine rv0 rfl rfl rfl (y_fieldAddr (k := 0) Try.underlying26 rfl (n := 1) (by decide) Try.sizeOf3 rfl) ?_
      refine rv0 rfl rfl rfl ((y_load ⟨Try.isAgg3, Try.sizeOf3⟩ rfl (by (repeat (first|exact zH _|apply zT));done) rfl)) ?_
      refine rv0 rfl rfl rfl (y_fieldAddr (k := 0) Try.underlying26 rfl (n := 1) (by decide) Try.sizeOf3 rfl) ?_
      refine rv0 rfl rfl rfl ((y_load ⟨Try.isAgg3, Try.sizeOf3⟩ rfl (by (repeat (first|exact zH _|apply zT));done) rfl)) ?_
      refine rv0 rfl rfl rfl (y_neq rfl rfl) ?_
      refine rv0 rfl rfl rfl (y_move rfl) ?_
      refine rj_part 89 rfl (fun hg89 => ?_) (fun hg89 => ?_)
      ·try simp only [dT, dF, nT, nF, tF, fT] at hg89
       refine rj_skip (wn2 rfl rfl rfl rfl rfl) rfl rfl ?_
       refine rj_skip (wn2 rfl rfl rfl rfl rfl) rfl rfl ?_
       refine rj_skip (wn2 rfl rfl rfl rfl rfl) rfl rfl ?_
       refine rv0 rfl rfl rfl (y_pick_t rfl rfl) ?_
       refine rj_nil ?_
       refine hK22 _ _ _ ?_
       refine cj_env (eL 4 rfl (eL 5 rfl (eL 7 rfl (eL 93 rfl eN)))) ?_
       refine cj_cond_t rfl ?_
       refine cj_seq (fun K23 hK23 => ?_)
       refine cj_region ?_
       refine rv0 rfl rfl rfl (y_assign rfl) ?_
       refine rj_nil ?_
       refine hK23 _ _ _ ?_
       refine cj_env (eL 2 rfl eN) ?_
       refine cj_ret ?_
       refine hret _ _ _ ?_
       apply ej_ret Try.results6 (.cons (rv_tmp rfl) .nil) _ [] (by first | exact hR0 | exact Hp.le_trans hR0 hR1) rfl
       case hp => rfl
       case hS => (repeat (first|exact zR _|(apply zP;focus (repeat (first|exact zH _|apply zT)))|apply zD|exact zA _ _))
      ·have hkk : a.kind = b.kind := by simpa using hg89
       refine rj_val (wn1 rfl rfl rfl rfl) rfl rfl (y_fieldAddr (k := 0) Try.underlying26 rfl (n := 1) (by decide) Try.sizeOf3 rfl) ?_
       refine rj_val (wn1 rfl rfl rfl rfl) rfl rfl ((y_load ⟨Try.isAgg3, Try.sizeOf3⟩ rfl (by (repeat (first|exact zH _|apply zT));done) rfl)) ?_
       refine rj_val (wn1 rfl rfl rfl rfl) rfl rfl (y_eql rfl rfl) ?_
       refine rv0 rfl rfl rfl (y_pick_f rfl rfl) ?_
       refine rj_nil ?_
       refine hK22 _ _ _ ?_
       refine cj_env (eL 4 rfl (eL 5 rfl (eL 7 rfl (eL 93 rfl eN)))) ?_
       refine cj_cond rfl (fun hc93 => ?_) (fun hc93 => ?_)
       ·try simp only [dT, dF, nT, nF, tF, fT] at hc93
        refine cj_seq (fun K25 hK25 => ?_)
        refine cj_region ?_
        refine rv0 rfl rfl rfl (y_assign rfl) ?_
        refine rj_nil ?_
        refine hK25 _ _ _ ?_
        refine cj_env (eL 2 rfl eN) ?_
        refine cj_ret ?_
        refine hret _ _ _ ?_
        apply ej_ret Try.results6 (.cons (rv_tmp rfl) .nil) _ [] (by first | exact hR0 | exact Hp.le_trans hR0 hR1) rfl
        case hp => rfl
        case hS => (repeat (first|exact zR _|(apply zP;focus (repeat (first|exact zH _|apply zT)))|apply zD|exact zA _ _))
       ·have hn0 : ¬ a.kind = 0 := by simpa using hc93
        refine cj_skip ?_
        refine hK21 _ _ _ ?_
        refine cj_seq (fun K26 hK26 => ?_)
        refine cj_region ?_
        refine rv0 rfl rfl rfl ((y_loads_all (vs := valC a) ⟨Try.isAgg26, Try.sizeOf26⟩ rfl rfl (by (repeat (first|exact zH _|apply zT));done))) ?_
        refine rv0 rfl rfl rfl (y_build (cells := [_, _, _, _, _, _]) [(0, 1), (1, 3), (4, 1), (5, 1)] Try.underlying29 Try.zeroValue29 (fun _ => rfl) rfl rfl) ?_
        refine rv0 rfl rfl rfl ((y_loads_all (vs := valC b) ⟨Try.isAgg26, Try.sizeOf26⟩ rfl rfl (by (repeat (first|exact zH _|apply zT));done))) ?_
        refine rv0 rfl rfl rfl (y_build (cells := [_, _, _, _, _, _]) [(0, 1), (1, 3), (4, 1), (5, 1)] Try.underlying29 Try.zeroValue29 (fun _ => rfl) rfl rfl) ?_
        refine rj_buildSlice (sz := 6) (wn0 rfl) rfl Try.underlying27 Try.sizeOf29 Try.zeroValue29 rfl rfl rfl (by decide) (by decide) (fun bk => ?_)
        refine rj_freeze (e := 29) (sz := 6) (n := 2) (xs := exC Op.val.str a [] (.slice none 0 0) ++ exC Op.val.str b [] (.slice none 0 0)) (by (repeat (first|exact zH _|apply zT));done) (fun R1 hR1 hfr1 hxl1 => ?_)
        have hkids := kidsFr2 hfr1 (lit_rep a) (lit_rep b)
        have hwa := lit_wf (v := a) ⟨va, (hin a (by simp)).1⟩
        have hwb := lit_wf (v := b) ⟨vb, (hin b (by simp)).1⟩
        refine rv0 rfl rfl rfl (y_assign rfl) ?_
        refine rj_nil ?_
        refine hK26 _ _ _ ?_
        refine cj_env (eL 7 rfl (eL 10 rfl eN)) ?_
        refine cj_seq (fun K27 hK27 => ?_)
        refine cj_region ?_
        refine rv0 rfl rfl rfl (y_move rfl) ?_
        refine rv0 rfl rfl rfl (y_build (cells := [_, _, _, _, _, _]) [(0, 1), (1, 3), (4, 1), (5, 1)] Try.underlying29 Try.zeroValue29 (fun _ => rfl) rfl rfl) ?_
        refine rv0 rfl rfl rfl (y_call Try.call19 rfl ((Of_q (.mk .lt Vl.zero [] [lit a, lit b]) (exC Op.lt.str Vl.zero [] (.slice (some ⟨bk, 0, none⟩) 2 2)) [] (.slice none 0 0) [] (.slice none 0 0) (.two rfl hwa hwb) (RepX.of hkids) FrX.nil (fun c hc => by simp at hc) FrX.nil (fun v hv => by simp at hv)).eq (congrArg pairV (ofV_cmp (.inl rfl) hkk va hn0))) (by (repeat (first|exact zN _|(apply zS;focus (repeat (first|exact zH _|apply zT))))))) ?_
        refine rv0 rfl rfl rfl (y_move rfl) ?_
        refine rv0 rfl rfl rfl (y_extract rfl rfl) ?_
        refine rv0 rfl rfl rfl (y_extract rfl rfl) ?_
        refine rj_alloc (wn0 rfl) rfl Try.zeroValue26 rfl (fun b11 => ?_)
        refine rj_stores_all (vs := valC (truthV (cmpB .lt (cmpV a b)))) ⟨Try.isAgg26, Try.sizeOf26⟩ rfl (wn0 rfl) rfl rfl (valE.one (R := R) (x := truthV (cmpB .lt (cmpV a b))) rfl) (by (repeat (first|exact zH _|apply zT));done) rfl ?_
        refine rv0 rfl rfl rfl (y_assign rfl) ?_
        refine rj_nil ?_
        refine hK27 _ _ _ ?_
        refine cj_env (eL 7 rfl (eL 10 rfl (eL 11 rfl (eL 12 rfl eN)))) ?_
        refine cj_seq (fun K28 hK28 => ?_)
        refine cj_region ?_
        refine rv0 rfl rfl rfl (y_move rfl) ?_
        refine rv0 rfl rfl rfl (y_build (cells := [_, _, _, _, _, _]) [(0, 1), (1, 3), (4, 1), (5, 1)] Try.underlying29 Try.zeroValue29 (fun _ => rfl) rfl rfl) ?_
        refine rv0 rfl rfl rfl (y_call Try.call19 rfl ((Of_q (.mk .eq Vl.zero [] [lit a, lit b]) (exC Op.eq.str Vl.zero [] (.slice (some ⟨bk, 0, none⟩) 2 2)) [] (.slice none 0 0) [] (.slice none 0 0) (.two rfl hwa hwb) (RepX.of hkids) FrX.nil (fun c hc => by simp at hc) FrX.nil (fun v hv => by simp at hv)).eq (congrArg pairV (ofV_cmp (.inr rfl) hkk va hn0))) (by (repeat (first|exact zN _|(apply zS;focus (repeat (first|exact zH _|apply zT))))))) ?_
        refine rv0 rfl rfl rfl (y_move rfl) ?_
        refine rv0 rfl rfl rfl (y_extract rfl rfl) ?_
        refine rv0 rfl rfl rfl (y_extract rfl rfl) ?_
        refine rj_alloc (wn0 rfl) rfl Try.zeroValue26 rfl (fun b13 => ?_)
        refine rj_stores_all (vs := valC (truthV (cmpB .eq (cmpV a b)))) ⟨Try.isAgg26, Try.sizeOf26⟩ rfl (wn0 rfl) rfl rfl (valE.one (R := R) (x := truthV (cmpB .eq (cmpV a b))) rfl) (by (repeat (first|exact zH _|apply zT));done) rfl ?_
        refine rv0 rfl rfl rfl (y_assign rfl) ?_
        refine rj_nil ?_
        refine hK28 _ _ _ ?_
        refine cj_env (eL 7 rfl (eL 11 rfl (eL 12 rfl (eL 13 rfl (eL 14 rfl eN))))) ?_
        refine cj_seq (fun K29 hK29 => ?_)
        refine cj_region ?_
        refine rv0 rfl rfl rfl (y_move rfl) ?_
        refine rv0 rfl rfl rfl (y_eql rfl rfl) ?_
        refine rv0 rfl rfl rfl (y_move rfl) ?_
        refine rj_val (wn1 rfl rfl rfl rfl) rfl rfl (y_move rfl) ?_
        refine rj_val (wn1 rfl rfl rfl rfl) rfl rfl (y_eql rfl rfl) ?_
        refine rv0 rfl rfl rfl (y_pick_t rfl rfl) ?_
        refine rv0 rfl rfl rfl (y_move rfl) ?_
        refine rj_val (wn1 rfl rfl rfl rfl) rfl rfl ((y_loads_all (vs := valC (truthV (cmpB .lt (cmpV a b)))) ⟨Try.isAgg26, Try.sizeOf26⟩ rfl rfl (by (repeat (first|exact zH _|apply zT));done))) ?_
        refine rj_val (wn1 rfl rfl rfl rfl) rfl rfl (y_call Try.call26 rfl ((true_q (truthV (cmpB .lt (cmpV a b))))) (by (repeat (first|exact zN _|(apply zS;focus (repeat (first|exact zH _|apply zT))))))) ?_
        refine rj_val (wn1 rfl rfl rfl rfl) rfl rfl (y_move rfl) ?_
        refine rj_val (wn1 rfl rfl rfl rfl) rfl rfl (y_lss rfl rfl) ?_
        refine rj_val (wn1 rfl rfl rfl rfl) rfl rfl (y_beql Try.underlying4 rfl rfl) ?_
        refine rj_eq 122 rfl (v' := .bool true) (by rw [true_truth]; simp [cmpB]) ?_
        refine rv0 rfl rfl rfl (y_pick_t rfl rfl) ?_
        refine rv0 rfl rfl rfl (y_move rfl) ?_
        refine rj_val (wn1 rfl rfl rfl rfl) rfl rfl ((y_loads_all (vs := valC (truthV (cmpB .eq (cmpV a b)))) ⟨Try.isAgg26, Try.sizeOf26⟩ rfl rfl (by (repeat (first|exact zH _|apply zT));done))) ?_
        refine rj_val (wn1 rfl rfl rfl rfl) rfl rfl (y_call Try.call26 rfl ((true_q (truthV (cmpB .eq (cmpV a b))))) (by (repeat (first|exact zN _|(apply zS;focus (repeat (first|exact zH _|apply zT))))))) ?_
        refine rj_val (wn1 rfl rfl rfl rfl) rfl rfl (y_move rfl) ?_
        refine rj_val (wn1 rfl rfl rfl rfl) rfl rfl (y_eql rfl rfl) ?_
        refine rj_val (wn1 rfl rfl rfl rfl) rfl rfl (y_beql Try.underlying4 rfl rfl) ?_
        refine rj_eq 129 rfl (v' := .bool true) (by rw [true_truth]; simp [cmpB]) ?_
        refine rv0 rfl rfl rfl (y_pick_t rfl rfl) ?_
        refine rv0 rfl rfl rfl (y_assign rfl) ?_
        refine rj_nil ?_
        refine hK29 _ _ _ ?_
        refine cj_env (eL 2 rfl eN) ?_
        refine cj_ret ?_
        refine hret _ _ _ ?_
        apply ej_ret Try.results6 (.cons (rv_tmp rfl) .nil) _ [] (by first | exact hR0 | exact Hp.le_trans hR0 hR1) rfl
        case hp => rfl
        case hS => (repeat (first|exact zR _|(apply zP;focus (repeat (first|exact zH _|apply zT)))|apply zD|exact zA _ _))
     refine cj_seq (fun K30 hK30 => ?_)
     refine cj_draw (by kernel_rfl) (by kernel_rfl) ?_
     refine qj_val (wn0 rfl) rfl rfl (y_move rfl) ?_
     refine qj_val (wn0 rfl) rfl rfl ((y_loads_all (vs := valC a) ⟨Try.isAgg26, Try.sizeOf26⟩ rfl rfl (by (repeat (first|exact zH _|apply zT));done))) ?_
     refine qj_val (wn0 rfl) rfl rfl ((y_loads_all (vs := valC b) ⟨Try.isAgg26, Try.sizeOf26⟩ rfl rfl (by (repeat (first|exact zH _|apply zT));done))) ?_
     refine qj_val (wn0 rfl) rfl rfl (y_call Try.call25 rfl (rcompare_q a b va vb) (by (repeat (first|exact zN _|(apply zS;focus (repeat (first|exact zH _|apply zT))))))) ?_
     refine qj_val (wn0 rfl) rfl rfl (y_neq rfl rfl) ?_
     refine qj_eq 48 rfl (v' := .bool false) (by simp) ?_
     refine qj_val (wn0 rfl) rfl rfl (y_move rfl) ?_
     refine qj_val (wn1 rfl rfl rfl rfl) rfl rfl (y_move rfl) ?_
     refine qj_val (wn1 rfl rfl rfl rfl) rfl rfl ((y_loads_all (vs := valC b) ⟨Try.isAgg26, Try.sizeOf26⟩ rfl rfl (by (repeat (first|exact zH _|apply zT));done))) ?_
     refine qj_val (wn1 rfl rfl rfl rfl) rfl rfl ((y_loads_all (vs := valC a) ⟨Try.isAgg26, Try.sizeOf26⟩ rfl rfl (by (repeat (first|exact zH _|apply zT));done))) ?_
     refine qj_val (wn1 rfl rfl rfl rfl) rfl rfl (y_call Try.call24 rfl (compare_q b a) (by (repeat (first|exact zN _|(apply zS;focus (repeat (first|exact zH _|apply zT))))))) ?_
     refine qj_val (wn1 rfl rfl rfl rfl) rfl rfl ((Yld.to (u := .int .i64 (cmpV a b)) (y_neg rfl) (neg_small a b))) ?_
     refine qj_val (wn1 rfl rfl rfl rfl) rfl rfl (y_neq rfl rfl) ?_
     refine qj_eq 55 rfl (v' := .bool false) (by simp) ?_
     refine qj_val (wn0 rfl) rfl rfl (y_pick_f rfl rfl) ?_
     refine qj_val (wn0 rfl) rfl rfl (y_move rfl) ?_
     refine qj_val (wn1 rfl rfl rfl rfl) rfl rfl (y_move rfl) ?_
     refine qj_val (wn1 rfl rfl rfl rfl) rfl rfl (y_eql rfl rfl) ?_
     refine qj_val (wn1 rfl rfl rfl rfl) rfl rfl ((y_loads_all (vs := valC a) ⟨Try.isAgg26, Try.sizeOf26⟩ rfl rfl (by (repeat (first|exact zH _|apply zT));done))) ?_
     refine qj_val (wn1 rfl rfl rfl rfl) rfl rfl ((y_loads_all (vs := valC b) ⟨Try.isAgg26, Try.sizeOf26⟩ rfl rfl (by (repeat (first|exact zH _|apply zT));done))) ?_
     refine qj_val (wn1 rfl rfl rfl rfl) rfl rfl ((y_steq (by kernel_rfl) rfl rfl (val_eq a b))) ?_
     refine qj_val (wn1 rfl rfl rfl rfl) rfl rfl (y_bneq Try.underlying4 rfl rfl) ?_
     refine qj_eq 63 rfl (v' := .bool false) (by rw [cmpV_eq]; simp) ?_
     refine qj_val (wn0 rfl) rfl rfl (y_pick_f rfl rfl) ?_
     refine qj_val (wn0 rfl) rfl rfl (y_move rfl) ?_
     refine qj_val (wn1 rfl rfl rfl rfl) rfl rfl (y_move rfl) ?_
     refine qj_val (wn1 rfl rfl rfl rfl) rfl rfl (y_leq rfl rfl) ?_
     refine qj_val (wn1 rfl rfl rfl rfl) rfl rfl (y_move rfl) ?_
     refine qj_part 68 rfl (fun hg68 => ?_) (fun hg68 => ?_)
     ·have hx0 : cmpV a b ≤ 0 := by simpa using hg68
      refine qj_val (wn1 rfl rfl rfl rfl) rfl rfl (y_move rfl) ?_
      refine qj_val (wn1 rfl rfl rfl rfl) rfl rfl (y_leq rfl rfl) ?_
      refine qj_val (wn1 rfl rfl rfl rfl) rfl rfl (y_pick_t rfl rfl) ?_
      refine qj_val (wn1 rfl rfl rfl rfl) rfl rfl (y_move rfl) ?_
      refine qj_part 72 rfl (fun hg72 => ?_) (fun hg72 => ?_)
      ·have hy0 : cmpV b d ≤ 0 := by simpa using hg72
       have hz0 := cmpV_trans hx0 hy0
       refine qj_val (wn1 rfl rfl rfl rfl) rfl rfl (y_move rfl) ?_
       refine qj_val (wn1 rfl rfl rfl rfl) rfl rfl (y_gtr rfl rfl) ?_
       refine qj_eq 74 rfl (v' := .bool false) (by simp; omega) ?_
       refine qj_val (wn1 rfl rfl rfl rfl) rfl rfl (y_pick_t rfl rfl) ?_
       refine qj_val (wn0 rfl) rfl rfl (y_pick_f rfl rfl) ?_
       refine qj_val (wn0 rfl) rfl rfl (y_move rfl) ?_
       refine qj_val (wn1 rfl rfl rfl rfl) rfl rfl ((y_loads_all (vs := valC a) ⟨Try.isAgg26, Try.sizeOf26⟩ rfl rfl (by (repeat (first|exact zH _|apply zT));done))) ?_
       refine qj_val (wn1 rfl rfl rfl rfl) rfl rfl (y_call Try.call26 rfl (true_q a) (by (repeat (first|exact zN _|(apply zS;focus (repeat (first|exact zH _|apply zT))))))) ?_
       refine qj_val (wn1 rfl rfl rfl rfl) rfl rfl ((y_loads_all (vs := valC a) ⟨Try.isAgg26, Try.sizeOf26⟩ rfl rfl (by (repeat (first|exact zH _|apply zT));done))) ?_
       refine qj_val (wn1 rfl rfl rfl rfl) rfl rfl (y_call Try.call27 rfl (rtrue_q a) (by (repeat (first|exact zN _|(apply zS;focus (repeat (first|exact zH _|apply zT))))))) ?_
       refine qj_val (wn1 rfl rfl rfl rfl) rfl rfl (y_bneq Try.underlying4 rfl rfl) ?_
       refine qj_eq 82 rfl (v' := .bool false) (by simp) ?_
       refine qj_val (wn0 rfl) rfl rfl (y_pick_f rfl rfl) ?_
       refine qj_nil ?_
       refine hK30 _ _ _ ?_
       refine cj_env (eL 4 rfl (eL 5 rfl (eL 7 rfl (eL 83 rfl eN)))) ?_
       refine cj_cond_f rfl ?_
       refine cj_skip ?_
       refine ej_join hJ15 (()) (trivial) (eC rfl (eC rfl (eC rfl eN))) rfl (by (repeat (first|exact zR _|(apply zP;focus (repeat (first|exact zH _|apply zT)))|apply zD|exact zA _ _)))
      ·try simp only [dT, dF, nT, nF, tF, fT] at hg72
       refine qj_skip (wn2 rfl rfl rfl rfl rfl) rfl rfl ?_
       refine qj_skip (wn2 rfl rfl rfl rfl rfl) rfl rfl ?_
       refine qj_val (wn1 rfl rfl rfl rfl) rfl rfl (y_pick_f rfl rfl) ?_
       refine qj_val (wn0 rfl) rfl rfl (y_pick_f rfl rfl) ?_
       refine qj_val (wn0 rfl) rfl rfl (y_move rfl) ?_
       refine qj_val (wn1 rfl rfl rfl rfl) rfl rfl ((y_loads_all (vs := valC a) ⟨Try.isAgg26, Try.sizeOf26⟩ rfl rfl (by (repeat (first|exact zH _|apply zT));done))) ?_
       refine qj_val (wn1 rfl rfl rfl rfl) rfl rfl (y_call Try.call26 rfl (true_q a) (by (repeat (first|exact zN _|(apply zS;focus (repeat (first|exact zH _|apply zT))))))) ?_
       refine qj_val (wn1 rfl rfl rfl rfl) rfl rfl ((y_loads_all (vs := valC a) ⟨Try.isAgg26, Try.sizeOf26⟩ rfl rfl (by (repeat (first|exact zH _|apply zT));done))) ?_
       refine qj_val (wn1 rfl rfl rfl rfl) rfl rfl (y_call Try.call27 rfl (rtrue_q a) (by (repeat (first|exact zN _|(apply zS;focus (repeat (first|exact zH _|apply zT))))))) ?_
       refine qj_val (wn1 rfl rfl rfl rfl) rfl rfl (y_bneq Try.underlying4 rfl rfl) ?_
       refine qj_eq 82 rfl (v' := .bool false) (by simp) ?_
       refine qj_val (wn0 rfl) rfl rfl (y_pick_f rfl rfl) ?_
       refine qj_nil ?_
       refine hK30 _ _ _ ?_
       refine cj_env (eL 4 rfl (eL 5 rfl (eL 7 rfl (eL 83 rfl eN)))) ?_
       refine cj_cond_f rfl ?_
       refine cj_skip ?_
       refine ej_join hJ15 (()) (trivial) (eC rfl (eC rfl (eC rfl eN))) rfl (by (repeat (first|exact zR _|(apply zP;focus (repeat (first|exact zH _|apply zT)))|apply zD|exact zA _ _)))
     ·try simp only [dT, dF, nT, nF, tF, fT] at hg68
      refine qj_skip (wn2 rfl rfl rfl rfl rfl) rfl rfl ?_
      refine qj_skip (wn2 rfl rfl rfl rfl rfl) rfl rfl ?_
      refine qj_val (wn1 rfl rfl rfl rfl) rfl rfl (y_pick_f rfl rfl) ?_
      refine qj_val (wn1 rfl rfl rfl rfl) rfl rfl (y_move rfl) ?_
      refine qj_skip (wn2 rfl rfl rfl rfl rfl) rfl rfl ?_
      refine qj_skip (wn2 rfl rfl rfl rfl rfl) rfl rfl ?_
      refine qj_val (wn1 rfl rfl rfl rfl) rfl rfl (y_pick_f rfl rfl) ?_
      refine qj_val (wn0 rfl) rfl rfl (y_pick_f rfl rfl) ?_
      refine qj_val (wn0 rfl) rfl rfl (y_move rfl) ?_
      refine qj_val (wn1 rfl rfl rfl rfl) rfl rfl ((y_loads_all (vs := valC a) ⟨Try.isAgg26, Try.sizeOf26⟩ rfl rfl (by (repeat (first|exact zH _|apply zT));done))) ?_
      refine qj_val (wn1 rfl rfl rfl rfl) rfl rfl (y_call Try.call26 rfl (true_q a) (by (repeat (first|exact zN _|(apply zS;focus (repeat (first|exact zH _|apply zT))))))) ?_
      refine qj_val (wn1 rfl rfl rfl rfl) rfl rfl ((y_loads_all (vs := valC a) ⟨Try.isAgg26, Try.sizeOf26⟩ rfl rfl (by (repeat (first|exact zH _|apply zT));done))) ?_
      refine qj_val (wn1 rfl rfl rfl rfl) rfl rfl (y_call Try.call27 rfl (rtrue_q a) (by (repeat (first|exact zN _|(apply zS;focus (repeat (first|exact zH _|apply zT))))))) ?_
      refine qj_val (wn1 rfl rfl rfl rfl) rfl rfl (y_bneq Try.underlying4 rfl rfl) ?_
      refine qj_eq 82 rfl (v' := .bool false) (by simp) ?_
      refine qj_val (wn0 rfl) rfl rfl (y_pick_f rfl rfl) ?_
      refine qj_nil ?_
      refine hK30 _ _ _ ?_
      refine cj_env (eL 4 rfl (eL 5 rfl (eL 7 rfl (eL 83 rfl eN)))) ?_
      refine cj_cond_f rfl ?_
      refine cj_skip ?_
      refine ej_join hJ15 (()) (trivial) (eC rfl (eC rfl (eC rfl eN))) rfl (by (repeat (first|exact zR _|(apply zP;focus (repeat (first|exact zH _|apply zT)))|apply zD|exact zA _ _)))
    obtain rfl : i = 3 := by (try simp at hc21); omega
    obtain ⟨va, vb, vd⟩ : isV a = true ∧ isV b = true ∧ isV d = true := by simpa using hok
    refine cj_mixs (L := [blk b1 (valsC [a, b, d]) 41]) [0, 1, 2, 3, 4, 5] [6, 7, 8, 9, 10] [11] _ noX_ok (by (repeat (first|exact zR _|(apply zP;focus (repeat (first|exact zH _|apply zT)))|apply zD|exact zA _ _))) (by kernel_rfl) (by kernel_rfl) (by kernel_rfl) rfl ?_
    refine fj_val rfl rfl rfl (wn0 rfl) (fun R1 hR1 G => (y_indexAddr_arr Try.underlying41 Try.sizeOf26 rfl rfl (by decide))) ?_
    refine fj_val rfl rfl rfl (wn0 rfl) (fun R1 hR1 G => (y_loads_blk (vs := valC a) ⟨Try.isAgg26, Try.sizeOf26⟩ rfl (by (repeat (first|exact zH _|apply zT));done) rfl rfl)) ?_
    refine fj_val rfl rfl rfl (wn0 rfl) (fun R1 hR1 G => (y_indexAddr_arr Try.underlying41 Try.sizeOf26 rfl rfl (by decide))) ?_
    refine fj_val rfl rfl rfl (wn0 rfl) (fun R1 hR1 G => (y_loads_blk (vs := valC b) ⟨Try.isAgg26, Try.sizeOf26⟩ rfl (by (repeat (first|exact zH _|apply zT));done) rfl rfl)) ?_
    refine fj_val rfl rfl rfl (wn0 rfl) (fun R1 hR1 G => (y_indexAddr_arr Try.underlying41 Try.sizeOf26 rfl rfl (by decide))) ?_
    refine fj_val rfl rfl rfl (wn0 rfl) (fun R1 hR1 G => (y_loads_blk (vs := valC d) ⟨Try.isAgg26, Try.sizeOf26⟩ rfl (by (repeat (first|exact zH _|apply zT));done) rfl rfl)) ?_
    refine fj_nil ?_
    refine xs_all [6, 7, 8] (by kernel_rfl) ⟨?_, ?_, ?_, trivial⟩
    ·refine yj_rj rfl ?_
     try simp only [List.cons_append, List.nil_append, List.append_nil]
     refine rj_alloc (wn0 rfl) rfl Try.zeroValue26 rfl (fun b4 => ?_)
     refine rj_yk (by (first | exact Hp.le_refl _ | assumption | exact Hp.le_trans ‹_› ‹_›)) (by (repeat (first|exact zR _|(apply zP;focus (repeat (first|exact zH _|apply zT)))|apply zD|exact zA _ _))) ?_
     refine xs_all [7, 8] (by kernel_rfl) ⟨?_, ?_, trivial⟩
     ·refine yj_rj rfl ?_
      try simp only [List.cons_append, List.nil_append, List.append_nil]
      refine rj_alloc (wn0 rfl) rfl Try.zeroValue26 rfl (fun b5 => ?_)
      refine rj_yk (by (first | exact Hp.le_refl _ | assumption | exact Hp.le_trans ‹_› ‹_›)) (by (repeat (first|exact zR _|(apply zP;focus (repeat (first|exact zH _|apply zT)))|apply zD|exact zA _ _))) ?_
      refine xs_all [8] (by kernel_rfl) ⟨?_, trivial⟩
      refine yj_rj rfl ?_
      try simp only [List.cons_append, List.nil_append, List.append_nil]
      refine rj_alloc (wn0 rfl) rfl Try.zeroValue26 rfl (fun b6 => ?_)
      refine rj_yk (by (first | exact Hp.le_refl _ | assumption | exact Hp.le_trans ‹_› ‹_›)) (by (repeat (first|exact zR _|(apply zP;focus (repeat (first|exact zH _|apply zT)))|apply zD|exact zA _ _))) ?_
      refine xs_all [9] (by kernel_rfl) ⟨?_, trivial⟩
      refine yj_rj rfl ?_
      try simp only [List.cons_append, List.nil_append, List.append_nil]
      refine rj_stores_all (vs := valC a) ⟨Try.isAgg26, Try.sizeOf26⟩ rfl (wn0 rfl) rfl rfl (valE.one (R := R) (x := a) rfl) (by (repeat (first|exact zH _|apply zT));done) rfl ?_
      refine rj_yk (by (first | exact Hp.le_refl _ | assumption | exact Hp.le_trans ‹_› ‹_›)) (by (repeat (first|exact zR _|(apply zP;focus (repeat (first|exact zH _|apply zT)))|apply zD|exact zA _ _))) ?_
      refine xs_all [10] (by kernel_rfl) ⟨?_, trivial⟩
      refine yj_rj rfl ?_
      try simp only [List.cons_append, List.nil_append, List.append_nil]
      refine rj_stores_all (vs := valC b) ⟨Try.isAgg26, Try.sizeOf26⟩ rfl (wn0 rfl) rfl rfl (valE.one (R := R) (x := b) rfl) (by (repeat (first|exact zH _|apply zT));done) rfl ?_
      refine rj_yk (by (first | exact Hp.le_refl _ | assumption | exact Hp.le_trans ‹_› ‹_›)) (by (repeat (first|exact zR _|(apply zP;focus (repeat (first|exact zH _|apply zT)))|apply zD|exact zA _ _))) ?_
      refine xs_nil ?_
      try simp only [List.cons_append, List.nil_append, List.append_nil]
      refine rj_stores_all (vs := valC d) ⟨Try.isAgg26, Try.sizeOf26⟩ rfl (wn0 rfl) rfl rfl (valE.one (R := R) (x := d) rfl) (by (repeat (first|exact zH _|apply zT));done) rfl ?_
      refine rj_nil ?_
      refine ej_join hJ12 ((b4, b5, b6)) (⟨va, vb⟩) (eC rfl (eC rfl (eC rfl eN))) rfl (by (repeat (first|exact zR _|(apply zP;focus (repeat (first|exact zH _|apply zT)))|apply zD|exact zA _ _)))
     ·refine yj_rj rfl ?_
      try simp only [List.cons_append, List.nil_append, List.append_nil]
      refine rj_alloc (wn0 rfl) rfl Try.zeroValue26 rfl (fun b6 => ?_)
      refine rj_yk (by (first | exact Hp.le_refl _ | assumption | exact Hp.le_trans ‹_› ‹_›)) (by (repeat (first|exact zR _|(apply zP;focus (repeat (first|exact zH _|apply zT)))|apply zD|exact zA _ _))) ?_
      refine xs_all [7] (by kernel_rfl) ⟨?_, trivial⟩
      refine yj_rj rfl ?_
      try simp only [List.cons_append, List.nil_append, List.append_nil]
      refine rj_alloc (wn0 rfl) rfl Try.zeroValue26 rfl (fun b5 => ?_)
      refine rj_yk (by (first | exact Hp.le_refl _ | assumption | exact Hp.le_trans ‹_› ‹_›)) (by (repeat (first|exact zR _|(apply zP;focus (repeat (first|exact zH _|apply zT)))|apply zD|exact zA _ _))) ?_
      refine xs_all [9] (by kernel_rfl) ⟨?_, trivial⟩
      refine yj_rj rfl ?_
      try simp only [List.cons_append, List.nil_append, List.append_nil]
      refine rj_stores_all (vs := valC a) ⟨Try.isAgg26, Try.sizeOf26⟩ rfl (wn0 rfl) rfl rfl (valE.one (R := R) (x := a) rfl) (by (repeat (first|exact zH _|apply zT));done) rfl ?_
      refine rj_yk (by (first | exact Hp.le_refl _ | assumption | exact Hp.le_trans ‹_› ‹_›)) (by (repeat (first|exact zR _|(apply zP;focus (repeat (first|exact zH _|apply zT)))|apply zD|exact zA _ _))) ?_
      refine xs_all [10] (by kernel_rfl) ⟨?_, trivial⟩
      refine yj_rj rfl ?_
      try simp only [List.cons_append, List.nil_append, List.append_nil]
      refine rj_stores_all (vs := valC b) ⟨Try.isAgg26, Try.sizeOf26⟩ rfl (wn0 rfl) rfl rfl (valE.one (R := R) (x := b) rfl) (by (repeat (first|exact zH _|apply zT));done) rfl ?_
      refine rj_yk (by (first | exact Hp.le_refl _ | assumption | exact Hp.le_trans ‹_› ‹_›)) (by (repeat (first|exact zR _|(apply zP;focus (repeat (first|exact zH _|apply zT)))|apply zD|exact zA _ _))) ?_
      refine xs_nil ?_
      try simp only [List.cons_append, List.nil_append, List.append_nil]
      refine rj_stores_all (vs := valC d) ⟨Try.isAgg26, Try.sizeOf26⟩ rfl (wn0 rfl) rfl rfl (valE.one (R := R) (x := d) rfl) (by (repeat (first|exact zH _|apply zT));done) rfl ?_
      refine rj_nil ?_
      refine ej_join hJ12 ((b4, b5, b6)) (⟨va, vb⟩) (eC rfl (eC rfl (eC rfl eN))) rfl (by (repeat (first|exact zR _|(apply zP;focus (repeat (first|exact zH _|apply zT)))|apply zD|exact zA _ _)))
    ·refine yj_rj rfl ?_
     try simp only [List.cons_append, List.nil_append, List.append_nil]
     refine rj_alloc (wn0 rfl) rfl Try.zeroValue26 rfl (fun b5 => ?_)
     refine rj_yk (by (first | exact Hp.le_refl _ | assumption | exact Hp.le_trans ‹_› ‹_›)) (by (repeat (first|exact zR _|(apply zP;focus (repeat (first|exact zH _|apply zT)))|apply zD|exact zA _ _))) ?_
     refine xs_all [6, 8] (by kernel_rfl) ⟨?_, ?_, trivial⟩
     ·refine yj_rj rfl ?_
      try simp only [List.cons_append, List.nil_append, List.append_nil]
      refine rj_alloc (wn0 rfl) rfl Try.zeroValue26 rfl (fun b4 => ?_)
      refine rj_yk (by (first | exact Hp.le_refl _ | assumption | exact Hp.le_trans ‹_› ‹_›)) (by (repeat (first|exact zR _|(apply zP;focus (repeat (first|exact zH _|apply zT)))|apply zD|exact zA _ _))) ?_
      refine xs_all [8] (by kernel_rfl) ⟨?_, trivial⟩
      refine yj_rj rfl ?_
      try simp only [List.cons_append, List.nil_append, List.append_nil]
      refine rj_alloc (wn0 rfl) rfl Try.zeroValue26 rfl (fun b6 => ?_)
      refine rj_yk (by (first | exact Hp.le_refl _ | assumption | exact Hp.le_trans ‹_› ‹_›)) (by (repeat (first|exact zR _|(apply zP;focus (repeat (first|exact zH _|apply zT)))|apply zD|exact zA _ _))) ?_
      refine xs_all [9] (by kernel_rfl) ⟨?_, trivial⟩
      refine yj_rj rfl ?_
      try simp only [List.cons_append, List.nil_append, List.append_nil]
      refine rj_stores_all (vs := valC a) ⟨Try.isAgg26, Try.sizeOf26⟩ rfl (wn0 rfl) rfl rfl (valE.one (R := R) (x := a) rfl) (by (repeat (first|exact zH _|apply zT));done) rfl ?_
      refine rj_yk (by (first | exact Hp.le_refl _ | assumption | exact Hp.le_trans ‹_› ‹_›)) (by (repeat (first|exact zR _|(apply zP;focus (repeat (first|exact zH _|apply zT)))|apply zD|exact zA _ _))) ?_
      refine xs_all [10] (by kernel_rfl) ⟨?_, trivial⟩
      refine yj_rj rfl ?_
      try simp only [List.cons_append, List.nil_append, List.append_nil]
      refine rj_stores_all (vs := valC b) ⟨Try.isAgg26, Try.sizeOf26⟩ rfl (wn0 rfl) rfl rfl (valE.one (R := R) (x := b) rfl) (by (repeat (first|exact zH _|apply zT));done) rfl ?_
      refine rj_yk (by (first | exact Hp.le_refl _ | assumption | exact Hp.le_trans ‹_› ‹_›)) (by (repeat (first|exact zR _|(apply zP;focus (repeat (first|exact zH _|apply zT)))|apply zD|exact zA _ _))) ?_
      refine xs_nil ?_
      try simp only [List.cons_append, List.nil_append, List.append_nil]
      refine rj_stores_all (vs := valC d) ⟨Try.isAgg26, Try.sizeOf26⟩ rfl (wn0 rfl) rfl rfl (valE.one (R := R) (x := d) rfl) (by (repeat (first|exact zH _|apply zT));done) rfl ?_
      refine rj_nil ?_
      refine ej_join hJ12 ((b4, b5, b6)) (⟨va, vb⟩) (eC rfl (eC rfl (eC rfl eN))) rfl (by (repeat (first|exact zR _|(apply zP;focus (repeat (first|exact zH _|apply zT)))|apply zD|exact zA _ _)))
     ·refine yj_rj rfl ?_
      try simp only [List.cons_append, List.nil_append, List.append_nil]
      refine rj_alloc (wn0 rfl) rfl Try.zeroValue26 rfl (fun b6 => ?_)
      refine rj_yk (by (first | exact Hp.le_refl _ | assumption | exact Hp.le_trans ‹_› ‹_›)) (by (repeat (first|exact zR _|(apply zP;focus (repeat (first|exact zH _|apply zT)))|apply zD|exact zA _ _))) ?_
      refine xs_all [6] (by kernel_rfl) ⟨?_, trivial⟩
      refine yj_rj rfl ?_
      try simp only [List.cons_append, List.nil_append, List.append_nil]
      refine rj_alloc (wn0 rfl) rfl Try.zeroValue26 rfl (fun b4 => ?_)
      refine rj_yk (by (first | exact Hp.le_refl _ | assumption | exact Hp.le_trans ‹_› ‹_›)) (by (repeat (first|exact zR _|(apply zP;focus (repeat (first|exact zH _|apply zT)))|apply zD|exact zA _ _))) ?_
      refine xs_all [9] (by kernel_rfl) ⟨?_, trivial⟩
      refine yj_rj rfl ?_
      try simp only [List.cons_append, List.nil_append, List.append_nil]
      refine rj_stores_all (vs := valC a) ⟨Try.isAgg26, Try.sizeOf26⟩ rfl (wn0 rfl) rfl rfl (valE.one (R := R) (x := a) rfl) (by (repeat (first|exact zH _|apply zT));done) rfl ?_
      refine rj_yk (by (first | exact Hp.le_refl _ | assumption | exact Hp.le_trans ‹_› ‹_›)) (by (repeat (first|exact zR _|(apply zP;focus (repeat (first|exact zH _|apply zT)))|apply zD|exact zA _ _))) ?_
      refine xs_all [10] (by kernel_rfl) ⟨?_, trivial⟩
      refine yj_rj rfl ?_
      try simp only [List.cons_append, List.nil_append, List.append_nil]
      refine rj_stores_all (vs := valC b) ⟨Try.isAgg26, Try.sizeOf26⟩ rfl (wn0 rfl) rfl rfl (valE.one (R := R) (x := b) rfl) (by (repeat (first|exact zH _|apply zT));done) rfl ?_
      refine rj_yk (by (first | exact Hp.le_refl _ | assumption | exact Hp.le_trans ‹_› ‹_›)) (by (repeat (first|exact zR _|(apply zP;focus (repeat (first|exact zH _|apply zT)))|apply zD|exact zA _ _))) ?_
      refine xs_nil ?_
      try simp only [List.cons_append, List.nil_append, List.append_nil]
      refine rj_stores_all (vs := valC d) ⟨Try.isAgg26, Try.sizeOf26⟩ rfl (wn0 rfl) rfl rfl (valE.one (R := R) (x := d) rfl) (by (repeat (first|exact zH _|apply zT));done) rfl ?_
      refine rj_nil ?_
      refine ej_join hJ12 ((b4, b5, b6)) (⟨va, vb⟩) (eC rfl (eC rfl (eC rfl eN))) rfl (by (repeat (first|exact zR _|(apply zP;focus (repeat (first|exact zH _|apply zT)))|apply zD|exact zA _ _)))
    ·refine yj_rj rfl ?_
     try simp only [List.cons_append, List.nil_append, List.append_nil]
     refine rj_alloc (wn0 rfl) rfl Try.zeroValue26 rfl (fun b6 => ?_)
     refine rj_yk (by (first | exact Hp.le_refl _ | assumption | exact Hp.le_trans ‹_› ‹_›)) (by (repeat (first|exact zR _|(apply zP;focus (repeat (first|exact zH _|apply zT)))|apply zD|exact zA _ _))) ?_
     refine xs_all [6, 7] (by kernel_rfl) ⟨?_, ?_, trivial⟩
     ·refine yj_rj rfl ?_
      try simp only [List.cons_append, List.nil_append, List.append_nil]
      refine rj_alloc (wn0 rfl) rfl Try.zeroValue26 rfl (fun b4 => ?_)
      refine rj_yk (by (first | exact Hp.le_refl _ | assumption | exact Hp.le_trans ‹_› ‹_›)) (by (repeat (first|exact zR _|(apply zP;focus (repeat (first|exact zH _|apply zT)))|apply zD|exact zA _ _))) ?_
      refine xs_all [7] (by kernel_rfl) ⟨?_, trivial⟩
      refine yj_rj rfl ?_
      try simp only [List.cons_append, List.nil_append, List.append_nil]
      refine rj_alloc (wn0 rfl) rfl Try.zeroValue26 rfl (fun b5 => ?_)
      refine rj_yk (by (first | exact Hp.le_refl _ | assumption | exact Hp.le_trans ‹_› ‹_›)) (by (repeat (first|exact zR _|(apply zP;focus (repeat (first|exact zH _|apply zT)))|apply zD|exact zA _ _))) ?_
      refine xs_all [9] (by kernel_rfl) ⟨?_, trivial⟩
      refine yj_rj rfl ?_
      try simp only [List.cons_append, List.nil_append, List.append_nil]
      refine rj_stores_all (vs := valC a) ⟨Try.isAgg26, Try.sizeOf26⟩ rfl (wn0 rfl) rfl rfl (valE.one (R := R) (x := a) rfl) (by (repeat (first|exact zH _|apply zT));done) rfl ?_
      refine rj_yk (by (first | exact Hp.le_refl _ | assumption | exact Hp.le_trans ‹_› ‹_›)) (by (repeat (first|exact zR _|(apply zP;focus (repeat (first|exact zH _|apply zT)))|apply zD|exact zA _ _))) ?_
      refine xs_all [10] (by kernel_rfl) ⟨?_, trivial⟩
      refine yj_rj rfl ?_
      try simp only [List.cons_append, List.nil_append, List.append_nil]
      refine rj_stores_all (vs := valC b) ⟨Try.isAgg26, Try.sizeOf26⟩ rfl (wn0 rfl) rfl rfl (valE.one (R := R) (x := b) rfl) (by (repeat (first|exact zH _|apply zT));done) rfl ?_
      refine rj_yk (by (first | exact Hp.le_refl _ | assumption | exact Hp.le_trans ‹_› ‹_›)) (by (repeat (first|exact zR _|(apply zP;focus (repeat (first|exact zH _|apply zT)))|apply zD|exact zA _ _))) ?_
      refine xs_nil ?_
      try simp only [List.cons_append, List.nil_append, List.append_nil]
      refine rj_stores_all (vs := valC d) ⟨Try.isAgg26, Try.sizeOf26⟩ rfl (wn0 rfl) rfl rfl (valE.one (R := R) (x := d) rfl) (by (repeat (first|exact zH _|apply zT));done) rfl ?_
      refine rj_nil ?_
      refine ej_join hJ12 ((b4, b5, b6)) (⟨va, vb⟩) (eC rfl (eC rfl (eC rfl eN))) rfl (by (repeat (first|exact zR _|(apply zP;focus (repeat (first|exact zH _|apply zT)))|apply zD|exact zA _ _)))
     ·refine yj_rj rfl ?_
      try simp only [List.cons_append, List.nil_append, List.append_nil]
      refine rj_alloc (wn0 rfl) rfl Try.zeroValue26 rfl (fun b5 => ?_)
      refine rj_yk (by (first | exact Hp.le_refl _ | assumption | exact Hp.le_trans ‹_› ‹_›)) (by (repeat (first|exact zR _|(apply zP;focus (repeat (first|exact zH _|apply zT)))|apply zD|exact zA _ _))) ?_
      refine xs_all [6] (by kernel_rfl) ⟨?_, trivial⟩
      refine yj_rj rfl ?_
      try simp only [List.cons_append, List.nil_append, List.append_nil]
      refine rj_alloc (wn0 rfl) rfl Try.zeroValue26 rfl (fun b4 => ?_)
      refine rj_yk (by (first | exact Hp.le_refl _ | assumption | exact Hp.le_trans ‹_› ‹_›)) (by (repeat (first|exact zR _|(apply zP;focus (repeat (first|exact zH _|apply zT)))|apply zD|exact zA _ _))) ?_
      refine xs_all [9] (by kernel_rfl) ⟨?_, trivial⟩
      refine yj_rj rfl ?_
      try simp only [List.cons_append, List.nil_append, List.append_nil]
      refine rj_stores_all (vs := valC a) ⟨Try.isAgg26, Try.sizeOf26⟩ rfl (wn0 rfl) rfl rfl (valE.one (R := R) (x := a) rfl) (by (repeat (first|exact zH _|apply zT));done) rfl ?_
      refine rj_yk (by (first | exact Hp.le_refl _ | assumption | exact Hp.le_trans ‹_› ‹_›)) (by (repeat (first|exact zR _|(apply zP;focus (repeat (first|exact zH _|apply zT)))|apply zD|exact zA _ _))) ?_
      refine xs_all [10] (by kernel_rfl) ⟨?_, trivial⟩
      refine yj_rj rfl ?_
      try simp only [List.cons_append, List.nil_append, List.append_nil]
      refine rj_stores_all (vs := valC b) ⟨Try.isAgg26, Try.sizeOf26⟩ rfl (wn0 rfl) rfl rfl (valE.one (R := R) (x := b) rfl) (by (repeat (first|exact zH _|apply zT));done) rfl ?_
      refine rj_yk (by (first | exact Hp.le_refl _ | assumption | exact Hp.le_trans ‹_› ‹_›)) (by (repeat (first|exact zR _|(apply zP;focus (repeat (first|exact zH _|apply zT)))|apply zD|exact zA _ _))) ?_
      refine xs_nil ?_
      try simp only [List.cons_append, List.nil_append, List.append_nil]
      refine rj_stores_all (vs := valC d) ⟨Try.isAgg26, Try.sizeOf26⟩ rfl (wn0 rfl) rfl rfl (valE.one (R := R) (x := d) rfl) (by (repeat (first|exact zH _|apply zT));done) rfl ?_
      refine rj_nil ?_
      refine ej_join hJ12 ((b4, b5, b6)) (⟨va, vb⟩) (eC rfl (eC rfl (eC rfl eN))) rfl (by (repeat (first|exact zR _|(apply zP;focus (repeat (first|exact zH _|apply zT)))|apply zD|exact zA _ _)))
end V
end Go.Proofs.Ytghgifgmacapcaa
