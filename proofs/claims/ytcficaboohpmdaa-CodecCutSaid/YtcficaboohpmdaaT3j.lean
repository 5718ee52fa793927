/- The reference's reading of a node. -/
import Derived.Test.YtcficaboohpmdaaT3i
set_option linter.unusedSimpArgs false
set_option linter.unusedVariables false
namespace Go.Proofs.Ytcficaboohpmdaa
open Go.RowKit
namespace V
set_option maxHeartbeats 4000000
/-- a size at a place: it, and where it ends -/
def szAt (s : List UInt8) (at_ : Nat) : Int × Int := match szM 4 0 0 (s.drop at_) with
  | some (n, r) => ((n : Int), ((s.length - r.length : Nat) : Int))
  | none => (0, -1)
theorem szAt_none {s : List UInt8} {a : Nat} (h : szM 4 0 0 (s.drop a) = none) : szAt s a = (0, -1) := by unfold szAt; rw [h]
theorem szAt_some {s : List UInt8} {a n : Nat} {r : List UInt8} (h : szM 4 0 0 (s.drop a) = some (n, r)) : szAt s a = ((n : Int), ((s.length - r.length : Nat) : Int)) := by unfold szAt; rw [h]
theorem tup2 {a a' b b' : Int} (h1 : a = a') (h2 : b = b') : Value.tuple #[.int .i64 a, .int .i64 b] = .tuple #[.int .i64 a', .int .i64 b'] := by rw [h1, h2]
theorem drop_at {s : List UInt8} {i : Nat} (h : i < s.length) : ∃ u, s.drop i = u :: s.drop (i + 1) ∧ byteAt s (i : Int) = (u.toNat : Int) := by
  refine ⟨s[i], List.drop_eq_getElem_cons h, ?_⟩
  simp [byteAt, h]
theorem rsize_q {R : Hp} (s : List UInt8) (a : Nat) (hs : s.length ≤ big) (ha : a ≤ big + 1) : QTri Try.prog 36 [.string (str s), .int .i64 (a : Int)] R [] (.tuple #[.int .i64 (szAt s a).1, .int .i64 (szAt s a).2]) := by
  unfold big at hs ha
  refine Tri.q ?_
  refine tri_of Try.func36 rfl Try.ntmps36 rfl (fun σ F Q hret hend hpan => ?_)
  try simp only [List.cons_append, List.nil_append]
  refine cj_env (Env.le_cons (t := 0) rfl (Env.le_cons (t := 1) rfl (Env.le_nil _))) ?_
  refine cj_seq (fun K1 hK1 => ?_)
  refine cj_region ?_
  refine rj_val (wn0 rfl) rfl rfl (y_assign rfl) ?_
  refine rj_val (wn0 rfl) rfl rfl (y_assign rfl) ?_
  refine rj_nil ?_
  refine hK1 _ _ _ ?_
  refine cj_seq (fun K2 hK2 => ?_)
  refine cj_region ?_
  refine rj_val (wn0 rfl) rfl rfl (y_assign rfl) ?_
  refine rj_nil ?_
  refine hK2 _ _ _ ?_
  refine cj_seq (fun K3 hK3 => ?_)
  refine cj_region ?_
  refine rj_val (wn0 rfl) rfl rfl (y_assign rfl) ?_
  refine rj_nil ?_
  refine hK3 _ _ _ ?_
  refine cj_seq (fun K4 hK4 => ?_)
  refine cj_seq (fun K5 hK5 => ?_)
  refine cj_region ?_
  refine rj_val (wn0 rfl) rfl rfl (y_move rfl) ?_
  refine rj_val (wn0 rfl) rfl rfl (y_assign rfl) ?_
  refine rj_nil ?_
  refine hK5 _ _ _ ?_
  refine cj_env (Env.le_cons (t := 0) rfl (Env.le_cons (t := 1) rfl (Env.le_cons (t := 6) rfl (Env.le_cons (t := 7) rfl (Env.le_cons (t := 8) rfl (Env.le_nil _)))))) ?_
  refine cj_block ?_
  refine cj_env (E' := (fun (x : Nat × Nat) => [(0, .string (str s)), (1, .int .i64 (a : Int)), (6, .int .i64 (x.2 : Int)), (7, .int .i64 ((128 ^ x.1 : Nat) : Int)), (8, .int .i64 ((a + x.1 : Nat) : Int))]) (0, 0)) (Env.le_cons rfl (Env.le_cons rfl (Env.le_cons rfl (Env.le_cons rfl (Env.le_cons rfl (Env.le_nil _)))))) ?_
  refine cj_sub (M := (fun (x : Nat × Nat) => F) (0, 0)) (by (repeat (first | exact Sub.refl _ | (apply Sub.pick; focus (repeat (first | exact Find.head _ | apply Find.tail))) | apply Sub.drop))) ?_
  refine cj_loop (fun (x : Nat × Nat) => [(0, .string (str s)), (1, .int .i64 (a : Int)), (6, .int .i64 (x.2 : Int)), (7, .int .i64 ((128 ^ x.1 : Nat) : Int)), (8, .int .i64 ((a + x.1 : Nat) : Int))]) (fun (x : Nat × Nat) => R) (fun (x : Nat × Nat) => F) (fun (x : Nat × Nat) => x.1 ≤ 4 ∧ x.2 < 128 ^ x.1 ∧ szM 4 0 0 (s.drop a) = szM (4 - x.1) x.1 x.2 (s.drop (a + x.1)) ∧ (x.1 > 0 → a + x.1 ≤ s.length)) (fun (x : Nat × Nat) => 4 - x.1) (0, 0) (⟨by simp, by simp, rfl, fun h => by simp at h⟩) ?_
  rintro ⟨j, acc⟩ ⟨hj, hac, hz, hin⟩
  try dsimp only
  dsimp only at hj hac hz hin
  have hp : 128 ^ j ≤ 128 ^ 4 := Nat.pow_le_pow_right (by omega) hj
  have hp4 : (128 : Nat) ^ 4 = 268435456 := by decide
  refine cj_seq (fun K6 hK6 => ?_)
  refine cj_seq (fun K7 hK7 => ?_)
  refine cj_region ?_
  refine rj_val (wn0 rfl) rfl rfl (y_move rfl) ?_
  refine rj_val (wn0 rfl) rfl rfl (y_move rfl) ?_
  refine rj_val (wn0 rfl) rfl rfl (y_slen Try.underlying9 rfl) ?_
  refine rj_val (wn0 rfl) rfl rfl (y_lss rfl rfl) ?_
  refine rj_val (wn0 rfl) rfl rfl (y_move rfl) ?_
  refine rj_part 15 rfl (fun hg15 => ?_) (fun hg15 => ?_)
  · try simp only [decide_eq_true_eq, decide_eq_false_iff_not, Bool.not_eq_true', Bool.not_eq_false', Bool.true_eq_false, Bool.false_eq_true] at hg15
    refine rj_val (wn1 rfl rfl rfl rfl) rfl rfl (y_move rfl) ?_
    refine rj_val (wn1 rfl rfl rfl rfl) rfl rfl (y_move rfl) ?_
    first | refine rj_val (wn1 rfl rfl rfl rfl) rfl rfl (y_add64 rfl rfl (by (first | omega | (dsimp only; omega) | (simp; done) | (simp; omega)))) ?_ | refine rj_val (wn1 rfl rfl rfl rfl) rfl rfl (y_add rfl rfl) ?_
    refine rj_val (wn1 rfl rfl rfl rfl) rfl rfl (y_lss rfl rfl) ?_
    refine rj_val (wn0 rfl) rfl rfl (y_pick_t rfl rfl) ?_
    refine rj_nil ?_
    refine hK7 _ _ _ ?_
    refine cj_env (Env.le_cons (t := 0) rfl (Env.le_cons (t := 1) rfl (Env.le_cons (t := 6) rfl (Env.le_cons (t := 7) rfl (Env.le_cons (t := 8) rfl (Env.le_cons (t := 20) rfl (Env.le_nil _))))))) ?_
    refine cj_cond rfl (fun hc20 => ?_) (fun hc20 => ?_)
    · (try simp only [decide_eq_true_eq, decide_eq_false_iff_not, Bool.not_eq_true', Bool.not_eq_false', Bool.true_eq_false, Bool.false_eq_true] at hc20)
      refine cj_skip ?_
      refine hK6 _ _ _ ?_
      refine cj_seq (fun K9 hK9 => ?_)
      refine cj_block ?_
      refine cj_seq (fun K10 hK10 => ?_)
      refine cj_region ?_
      have hlt : a + j < s.length ∧ j < 4 := by (try simp at hc20); (try simp at hg14); omega
      obtain ⟨u, hu1, hu2⟩ := drop_at hlt.1
      obtain ⟨f, hf⟩ : ∃ f, 4 - j = f + 1 := ⟨3 - j, by omega⟩
      have hul := u.toNat_lt
      have hm1 : u.toNat % 128 * 128 ^ j ≤ 127 * 128 ^ j := Nat.mul_le_mul_right _ (by omega)
      have hp3 : 128 ^ j ≤ 128 ^ 3 := Nat.pow_le_pow_right (by omega) (by omega)
      have hp33 : (128 : Nat) ^ 3 = 2097152 := by decide
      refine rj_val (wn0 rfl) rfl rfl (y_move rfl) ?_
      refine rj_val (wn0 rfl) rfl rfl (y_move rfl) ?_
      refine rj_val (wn0 rfl) rfl rfl (y_index_s Try.underlying9 rfl rfl (by (first | omega | (dsimp only; omega) | (simp; done) | (simp; omega)))) ?_
      refine rj_eq 25 rfl (congrArg (Value.int .u8) hu2) ?_
      first | refine rj_val (wn0 rfl) rfl rfl (y_conv_in Try.underlying5 Try.underlying3 rfl (by (simp only [IntKind.min, IntKind.max, IntKind.signed, IntKind.bits, Bool.false_eq_true, ite_false, ite_true]; omega))) ?_ | refine rj_val (wn0 rfl) rfl rfl (y_conv Try.underlying5 Try.underlying3 rfl) ?_
      refine rj_val (wn0 rfl) rfl rfl (y_assign rfl) ?_
      refine rj_nil ?_
      refine hK10 _ _ _ ?_
      refine cj_env (Env.le_cons (t := 0) rfl (Env.le_cons (t := 1) rfl (Env.le_cons (t := 6) rfl (Env.le_cons (t := 7) rfl (Env.le_cons (t := 8) rfl (Env.le_cons (t := 9) rfl (Env.le_nil _))))))) ?_
      refine cj_seq (fun K11 hK11 => ?_)
      refine cj_region ?_
      refine rj_val (wn0 rfl) rfl rfl (y_move rfl) ?_
      refine rj_val (wn0 rfl) rfl rfl (y_move rfl) ?_
      refine rj_val (wn0 rfl) rfl rfl (y_rem rfl rfl (by (first | omega | (dsimp only; omega) | (simp; done) | (simp; omega)))) ?_
      refine rj_eq 29 rfl (congrArg (Value.int .i64) (tmod_nat u.toNat 128)) ?_
      refine rj_val (wn0 rfl) rfl rfl (y_move rfl) ?_
      first | refine rj_val (wn0 rfl) rfl rfl (y_mul64 rfl rfl (by (first | omega | (dsimp only; omega) | (simp; done) | (simp; omega)))) ?_ | refine rj_val (wn0 rfl) rfl rfl (y_mul rfl rfl) ?_
      refine rj_eq 31 rfl (v' := .int .i64 ((u.toNat % 128 * 128 ^ j : Nat) : Int)) (by first | rfl | (congr 1; rw [Int.natCast_mul])) ?_
      first | refine rj_val (wn0 rfl) rfl rfl (y_add64 rfl rfl (by (first | omega | (dsimp only; omega) | (simp; done) | (simp; omega)))) ?_ | refine rj_val (wn0 rfl) rfl rfl (y_add rfl rfl) ?_
      refine rj_val (wn0 rfl) rfl rfl (y_assign rfl) ?_
      refine rj_nil ?_
      refine hK11 _ _ _ ?_
      refine cj_env (Env.le_cons (t := 0) rfl (Env.le_cons (t := 1) rfl (Env.le_cons (t := 6) rfl (Env.le_cons (t := 7) rfl (Env.le_cons (t := 8) rfl (Env.le_cons (t := 9) rfl (Env.le_nil _))))))) ?_
      refine cj_seq (fun K12 hK12 => ?_)
      refine cj_region ?_
      refine rj_val (wn0 rfl) rfl rfl (y_move rfl) ?_
      first | refine rj_val (wn0 rfl) rfl rfl (y_mul64 rfl rfl (by (first | omega | (dsimp only; omega) | (simp; done) | (simp; omega)))) ?_ | refine rj_val (wn0 rfl) rfl rfl (y_mul rfl rfl) ?_
      refine rj_val (wn0 rfl) rfl rfl (y_assign rfl) ?_
      refine rj_nil ?_
      refine hK12 _ _ _ ?_
      refine cj_seq (fun K13 hK13 => ?_)
      refine cj_region ?_
      refine rj_val (wn0 rfl) rfl rfl (y_move rfl) ?_
      refine rj_val (wn0 rfl) rfl rfl (y_lss rfl rfl) ?_
      refine rj_nil ?_
      refine hK13 _ _ _ ?_
      refine cj_env (Env.le_cons (t := 0) rfl (Env.le_cons (t := 1) rfl (Env.le_cons (t := 6) rfl (Env.le_cons (t := 7) rfl (Env.le_cons (t := 8) rfl (Env.le_cons (t := 9) rfl (Env.le_cons (t := 36) rfl (Env.le_nil _)))))))) ?_
      refine cj_cond rfl (fun hc36 => ?_) (fun hc36 => ?_)
      · (try simp only [decide_eq_true_eq, decide_eq_false_iff_not, Bool.not_eq_true', Bool.not_eq_false', Bool.true_eq_false, Bool.false_eq_true] at hc36)
        have hsz : szM 4 0 0 (s.drop a) = if u.toNat = 0 ∧ j > 0 then none else some (acc + u.toNat * 128 ^ j, s.drop (a + j + 1)) := by rw [hz, hf, hu1, szM, if_pos (by (try simp at hc36); omega)]
        have hum : u.toNat % 128 = u.toNat := Nat.mod_eq_of_lt (by (try simp at hc36); omega)
        refine cj_seq (fun K15 hK15 => ?_)
        refine cj_seq (fun K16 hK16 => ?_)
        refine cj_region ?_
        refine rj_val (wn0 rfl) rfl rfl (y_move rfl) ?_
        refine rj_val (wn0 rfl) rfl rfl (y_eql rfl rfl) ?_
        refine rj_val (wn0 rfl) rfl rfl (y_move rfl) ?_
        refine rj_part 39 rfl (fun hg39 => ?_) (fun hg39 => ?_)
        · try simp only [decide_eq_true_eq, decide_eq_false_iff_not, Bool.not_eq_true', Bool.not_eq_false', Bool.true_eq_false, Bool.false_eq_true] at hg39
          refine rj_val (wn1 rfl rfl rfl rfl) rfl rfl (y_move rfl) ?_
          refine rj_val (wn1 rfl rfl rfl rfl) rfl rfl (y_move rfl) ?_
          refine rj_val (wn1 rfl rfl rfl rfl) rfl rfl (y_gtr rfl rfl) ?_
          refine rj_val (wn0 rfl) rfl rfl (y_pick_t rfl rfl) ?_
          refine rj_nil ?_
          refine hK16 _ _ _ ?_
          refine cj_env (Env.le_cons (t := 6) rfl (Env.le_cons (t := 8) rfl (Env.le_cons (t := 43) rfl (Env.le_nil _)))) ?_
          refine cj_cond rfl (fun hc43 => ?_) (fun hc43 => ?_)
          · try simp only [decide_eq_true_eq, decide_eq_false_iff_not, Bool.not_eq_true', Bool.not_eq_false', Bool.true_eq_false, Bool.false_eq_true] at hc43
            refine cj_seq (fun K18 hK18 => ?_)
            refine cj_region ?_
            refine rj_val (wn0 rfl) rfl rfl (y_assign rfl) ?_
            refine rj_val (wn0 rfl) rfl rfl (y_assign rfl) ?_
            refine rj_nil ?_
            refine hK18 _ _ _ ?_
            refine cj_env (Env.le_cons (t := 4) rfl (Env.le_cons (t := 5) rfl (Env.le_nil _))) ?_
            refine cj_ret ?_
            refine hret _ _ _ ?_
            apply ej_ret Try.results36 (.cons (rv_tmp rfl) (.cons (rv_tmp rfl) .nil)) _ [] (by (first | exact Hp.le_refl _ | assumption | exact Hp.le_trans ‹_› ‹_›)) rfl
            case hp => refine ⟨?_, rfl, rfl⟩; rw [szAt_none (by rw [hsz, if_pos ⟨by (try simp at hg39); omega, by (try simp at hc43); omega⟩])]; rfl
            case hS => (repeat (first | exact Sub.refl _ | (apply Sub.pick; focus (repeat (first | exact Find.head _ | apply Find.tail))) | apply Sub.drop))
          · try simp only [decide_eq_true_eq, decide_eq_false_iff_not, Bool.not_eq_true', Bool.not_eq_false', Bool.true_eq_false, Bool.false_eq_true] at hc43
            refine cj_skip ?_
            refine hK15 _ _ _ ?_
            refine cj_seq (fun K19 hK19 => ?_)
            refine cj_region ?_
            refine rj_val (wn0 rfl) rfl rfl (y_move rfl) ?_
            refine rj_val (wn0 rfl) rfl rfl (y_move rfl) ?_
            first | refine rj_val (wn0 rfl) rfl rfl (y_add64 rfl rfl (by (first | omega | (dsimp only; omega) | (simp; done) | (simp; omega)))) ?_ | refine rj_val (wn0 rfl) rfl rfl (y_add rfl rfl) ?_
            refine rj_val (wn0 rfl) rfl rfl (y_assign rfl) ?_
            refine rj_val (wn0 rfl) rfl rfl (y_assign rfl) ?_
            refine rj_nil ?_
            refine hK19 _ _ _ ?_
            refine cj_env (Env.le_cons (t := 4) rfl (Env.le_cons (t := 5) rfl (Env.le_nil _))) ?_
            refine cj_ret ?_
            refine hret _ _ _ ?_
            apply ej_ret Try.results36 (.cons (rv_tmp rfl) (.cons (rv_tmp rfl) .nil)) _ [] (by (first | exact Hp.le_refl _ | assumption | exact Hp.le_trans ‹_› ‹_›)) rfl
            case hp => refine ⟨?_, rfl, rfl⟩; rw [szAt_some (by rw [hsz, if_neg (by (try simp at hc43); omega)])]; exact tup2 (by rw [hum]; omega) (by rw [List.length_drop]; omega)
            case hS => (repeat (first | exact Sub.refl _ | (apply Sub.pick; focus (repeat (first | exact Find.head _ | apply Find.tail))) | apply Sub.drop))
        · try simp only [decide_eq_true_eq, decide_eq_false_iff_not, Bool.not_eq_true', Bool.not_eq_false', Bool.true_eq_false, Bool.false_eq_true] at hg39
          refine rj_skip (wn2 rfl rfl rfl rfl rfl) rfl rfl ?_
          refine rj_skip (wn2 rfl rfl rfl rfl rfl) rfl rfl ?_
          refine rj_skip (wn2 rfl rfl rfl rfl rfl) rfl rfl ?_
          refine rj_val (wn0 rfl) rfl rfl (y_pick_f rfl rfl) ?_
          refine rj_nil ?_
          refine hK16 _ _ _ ?_
          refine cj_env (Env.le_cons (t := 6) rfl (Env.le_cons (t := 8) rfl (Env.le_cons (t := 43) rfl (Env.le_nil _)))) ?_
          refine cj_cond_f rfl ?_
          refine cj_skip ?_
          refine hK15 _ _ _ ?_
          refine cj_seq (fun K20 hK20 => ?_)
          refine cj_region ?_
          refine rj_val (wn0 rfl) rfl rfl (y_move rfl) ?_
          refine rj_val (wn0 rfl) rfl rfl (y_move rfl) ?_
          first | refine rj_val (wn0 rfl) rfl rfl (y_add64 rfl rfl (by (first | omega | (dsimp only; omega) | (simp; done) | (simp; omega)))) ?_ | refine rj_val (wn0 rfl) rfl rfl (y_add rfl rfl) ?_
          refine rj_val (wn0 rfl) rfl rfl (y_assign rfl) ?_
          refine rj_val (wn0 rfl) rfl rfl (y_assign rfl) ?_
          refine rj_nil ?_
          refine hK20 _ _ _ ?_
          refine cj_env (Env.le_cons (t := 4) rfl (Env.le_cons (t := 5) rfl (Env.le_nil _))) ?_
          refine cj_ret ?_
          refine hret _ _ _ ?_
          apply ej_ret Try.results36 (.cons (rv_tmp rfl) (.cons (rv_tmp rfl) .nil)) _ [] (by (first | exact Hp.le_refl _ | assumption | exact Hp.le_trans ‹_› ‹_›)) rfl
          case hp => refine ⟨?_, rfl, rfl⟩; rw [szAt_some (by rw [hsz, if_neg (by (try simp at hg39); omega)])]; exact tup2 (by rw [hum]; omega) (by rw [List.length_drop]; omega)
          case hS => (repeat (first | exact Sub.refl _ | (apply Sub.pick; focus (repeat (first | exact Find.head _ | apply Find.tail))) | apply Sub.drop))
      · try simp only [decide_eq_true_eq, decide_eq_false_iff_not, Bool.not_eq_true', Bool.not_eq_false', Bool.true_eq_false, Bool.false_eq_true] at hc36
        refine cj_skip ?_
        refine hK9 _ _ _ ?_
        refine cj_region ?_
        refine rj_val (wn0 rfl) rfl rfl (y_move rfl) ?_
        first | refine rj_val (wn0 rfl) rfl rfl (y_add64 rfl rfl (by (first | omega | (dsimp only; omega) | (simp; done) | (simp; omega)))) ?_ | refine rj_val (wn0 rfl) rfl rfl (y_add rfl rfl) ?_
        refine rj_val (wn0 rfl) rfl rfl (y_assign rfl) ?_
        refine rj_nil ?_
        refine ej_on (q' := roundK _ _ _ _ _ _ _) rfl ?_
        refine ej_round ((j + 1, acc + u.toNat % 128 * 128 ^ j)) (⟨by dsimp only; omega, by dsimp only; rw [Nat.pow_succ]; omega, by dsimp only; rw [hz, hf, hu1, szM, if_neg (by (try simp at hc36); omega), show u.toNat % 128 = u.toNat - 128 by (try simp at hc36); omega, Nat.add_assoc, show 4 - (j + 1) = f by omega], fun _ => by dsimp only; omega⟩) (by dsimp only; omega) (Env.le_cons rfl (Env.le_cons rfl (Env.le_cons rfl (Env.le_cons rfl (Env.le_cons rfl (Env.le_nil _)))))) rfl (by (repeat (first | exact Sub.refl _ | (apply Sub.pick; focus (repeat (first | exact Find.head _ | apply Find.tail))) | apply Sub.drop)))
    · try simp only [decide_eq_true_eq, decide_eq_false_iff_not, Bool.not_eq_true', Bool.not_eq_false', Bool.true_eq_false, Bool.false_eq_true] at hc20
      refine cj_exit ?_
      refine hK4 _ _ _ ?_
      refine cj_env (Env.le_nil _) ?_
      refine cj_seq (fun K21 hK21 => ?_)
      refine cj_region ?_
      refine rj_val (wn0 rfl) rfl rfl (y_assign rfl) ?_
      refine rj_val (wn0 rfl) rfl rfl (y_assign rfl) ?_
      refine rj_nil ?_
      refine hK21 _ _ _ ?_
      refine cj_ret ?_
      refine hret _ _ _ ?_
      apply ej_ret Try.results36 (.cons (rv_tmp rfl) (.cons (rv_tmp rfl) .nil)) _ [] (by (first | exact Hp.le_refl _ | assumption | exact Hp.le_trans ‹_› ‹_›)) rfl
      case hp => refine ⟨?_, rfl, rfl⟩; rw [szAt_none (by rw [hz, show 4 - j = 0 by (try simp at hc20); omega]; rfl)]; rfl
      case hS => (repeat (first | exact Sub.refl _ | (apply Sub.pick; focus (repeat (first | exact Find.head _ | apply Find.tail))) | apply Sub.drop))
  · try simp only [decide_eq_true_eq, decide_eq_false_iff_not, Bool.not_eq_true', Bool.not_eq_false', Bool.true_eq_false, Bool.false_eq_true] at hg15
    refine rj_skip (wn2 rfl rfl rfl rfl rfl) rfl rfl ?_
    refine rj_skip (wn2 rfl rfl rfl rfl rfl) rfl rfl ?_
    refine rj_skip (wn2 rfl rfl rfl rfl rfl) rfl rfl ?_
    refine rj_skip (wn2 rfl rfl rfl rfl rfl) rfl rfl ?_
    refine rj_val (wn0 rfl) rfl rfl (y_pick_f rfl rfl) ?_
    refine rj_nil ?_
    refine hK7 _ _ _ ?_
    refine cj_env (Env.le_cons (t := 0) rfl (Env.le_cons (t := 1) rfl (Env.le_cons (t := 6) rfl (Env.le_cons (t := 7) rfl (Env.le_cons (t := 8) rfl (Env.le_cons (t := 20) rfl (Env.le_nil _))))))) ?_
    refine cj_cond_f rfl ?_
    refine cj_exit ?_
    refine hK4 _ _ _ ?_
    refine cj_env (Env.le_nil _) ?_
    refine cj_seq (fun K22 hK22 => ?_)
    refine cj_region ?_
    refine rj_val (wn0 rfl) rfl rfl (y_assign rfl) ?_
    refine rj_val (wn0 rfl) rfl rfl (y_assign rfl) ?_
    refine rj_nil ?_
    refine hK22 _ _ _ ?_
    refine cj_ret ?_
    refine hret _ _ _ ?_
    apply ej_ret Try.results36 (.cons (rv_tmp rfl) (.cons (rv_tmp rfl) .nil)) _ [] (by (first | exact Hp.le_refl _ | assumption | exact Hp.le_trans ‹_› ‹_›)) rfl
    case hp => refine ⟨?_, rfl, rfl⟩; rw [szAt_none (by rw [hz, List.drop_of_length_le (by (try simp at hg15); omega)]; cases (4 - j) <;> rfl)]; rfl
    case hS => (repeat (first | exact Sub.refl _ | (apply Sub.pick; focus (repeat (first | exact Find.head _ | apply Find.tail))) | apply Sub.drop))
theorem szAt_pos {s : List UInt8} {a : Nat} (ha : a ≤ s.length) (h : ¬ (szAt s a).2 < 0) : ∃ n f, szM 4 0 0 (s.drop a) = some (n, s.drop f) ∧ f ≤ s.length ∧ n < 268435456 ∧ szAt s a = ((n : Int), (f : Int)) := by
  cases hz : szM 4 0 0 (s.drop a) with
  | none => rw [szAt_none hz] at h; simp at h
  | some p =>
    obtain ⟨n, q⟩ := p
    obtain ⟨h1, h2⟩ := szM_of hz
    have hl := congrArg List.length h1
    simp only [List.length_drop, List.length_append] at hl
    have hq : q = s.drop (s.length - q.length) := by
      have e : (s.drop a).drop (sizeB n).length = q := by rw [h1]; simp
      rw [List.drop_drop] at e
      rw [← e]
      congr 1
      rw [List.length_drop]; omega
    exact ⟨n, s.length - q.length, by rw [← hq], by omega, h2, szAt_some hz⟩
theorem szAt_neg {s : List UInt8} {a : Nat} (h : (szAt s a).2 < 0) : szM 4 0 0 (s.drop a) = none := by
  cases hz : szM 4 0 0 (s.drop a) with
  | none => rfl
  | some p => obtain ⟨n, q⟩ := p; rw [szAt_some hz] at h; simp at h; omega
/-- how a node was read at a place -/
def NAt (s : List UInt8) (a d : Nat) (r : Value) (R' : Hp) : Prop := ∃ y cy z, r = .tuple #[.agg ⟨cy⟩, .int .i64 z] ∧ RepN R' y cy ∧
  ((rdM d (s.drop a) = none ∧ z = -1 ∧ y = ndZero) ∨ ∃ e : Nat, e ≤ s.length ∧ z = e ∧ rdM d (s.drop a) = some (y, s.drop e))
theorem NAt.none_ {s : List UInt8} {a d : Nat} {R' : Hp} (h : rdM d (s.drop a) = none) : NAt s a d (.tuple #[.agg ⟨[.int .i64 0, .int .u64 0, .string (str []), .slice none 0 0]⟩, .int .i64 (-1)]) R' := ⟨ndZero, _, -1, rfl, zero_rep R', .inl ⟨h, rfl, rfl⟩⟩
/-- what is known of a number's node at a place -/
def NumAt (r : Option (Nd × List UInt8)) (s : List UInt8) (f n : Nat) (x : Bool) : Prop :=
  (x = true → r = none) ∧ (x = false → n ≤ 8 ∧ f + n ≤ s.length ∧ r = some (.mk 0 (beN ((s.drop f).take n)) [] [], s.drop (f + n)))
def RNodeAt (d : Nat) : Prop := ∀ (s : List UInt8) (a : Nat) {R : Hp}, d ≤ 20 → s.length ≤ big → a ≤ big →
    Tri Try.prog 23 [.string (str s), .int .i64 (a : Int), .int .i64 (d : Int)] R [] (fun r R' L' => NAt s a d r R' ∧ L' = [])
theorem rnodeAt_zero : RNodeAt 0 := by
  intro s a R hd hs ha
  refine tri_of Try.func23 rfl Try.ntmps23 rfl (fun σ F Q hret hend hpan => ?_)
  try simp only [List.cons_append, List.nil_append]
  refine cj_env (Env.le_cons (t := 0) rfl (Env.le_cons (t := 1) rfl (Env.le_cons (t := 2) rfl (Env.le_nil _)))) ?_
  refine cj_seq (fun K1 hK1 => ?_)
  refine cj_region ?_
  refine rj_alloc (wn0 rfl) rfl Try.zeroValue26 rfl (fun b6 => ?_)
  refine rj_val (wn0 rfl) rfl rfl (y_assign rfl) ?_
  refine rj_nil ?_
  refine hK1 _ _ _ ?_
  refine cj_seq (fun K2 hK2 => ?_)
  refine cj_region ?_
  refine rj_val (wn0 rfl) rfl rfl (y_build (cells := [_, _, _, _]) [(0, 1), (1, 1), (2, 1), (3, 1)] Try.underlying26 Try.zeroValue26 (fun _ => rfl) rfl rfl) ?_
  refine rj_alloc (wn0 rfl) rfl Try.zeroValue26 rfl (fun b8 => ?_)
  refine rj_stores ⟨Try.isAgg26, Try.sizeOf26⟩ rfl (wn0 rfl) rfl rfl (by (first | (simp [Value.oneCell']; done) | (intro u hu; simp only [List.mem_cons, List.not_mem_nil, or_false] at hu; rcases hu with rfl | rfl | rfl | rfl <;> first | rfl | assumption))) (by ((repeat (first | exact Find.head _ | apply Find.tail)); done)) (by (simp)) rfl ?_
  refine rj_nil ?_
  refine hK2 _ _ _ ?_
  refine cj_seq (fun K3 hK3 => ?_)
  refine cj_seq (fun K4 hK4 => ?_)
  refine cj_region ?_
  refine rj_val (wn0 rfl) rfl rfl (y_move rfl) ?_
  refine rj_val (wn0 rfl) rfl rfl (y_move rfl) ?_
  refine rj_val (wn0 rfl) rfl rfl (y_slen Try.underlying9 rfl) ?_
  refine rj_val (wn0 rfl) rfl rfl (y_geq rfl rfl) ?_
  refine rj_val (wn0 rfl) rfl rfl (y_move rfl) ?_
  refine rj_part 22 rfl (fun hg22 => ?_) (fun hg22 => ?_)
  · try simp only [decide_eq_true_eq, decide_eq_false_iff_not, Bool.not_eq_true', Bool.not_eq_false', Bool.true_eq_false, Bool.false_eq_true] at hg22
    refine rj_skip (wn2 rfl rfl rfl rfl rfl) rfl rfl ?_
    refine rj_skip (wn2 rfl rfl rfl rfl rfl) rfl rfl ?_
    refine rj_val (wn0 rfl) rfl rfl (y_pick_t rfl rfl) ?_
    refine rj_nil ?_
    refine hK4 _ _ _ ?_
    refine cj_env (Env.le_cons (t := 0) rfl (Env.le_cons (t := 1) rfl (Env.le_cons (t := 2) rfl (Env.le_cons (t := 6) rfl (Env.le_cons (t := 8) rfl (Env.le_cons (t := 25) rfl (Env.le_nil _))))))) ?_
    refine cj_cond_t rfl ?_
    refine cj_seq (fun K5 hK5 => ?_)
    refine cj_region ?_
    first | refine rj_val (wn0 rfl) rfl rfl (y_loads_blk ⟨Try.isAgg26, Try.sizeOf26⟩ rfl (by ((repeat (first | exact Find.head _ | apply Find.tail)); done)) rfl rfl) ?_ | refine rj_val (wn0 rfl) rfl rfl (y_loads_slc ⟨Try.isAgg26, Try.sizeOf26⟩ rfl (by ((repeat (first | exact Find.head _ | apply Find.tail)); done)) rfl rfl (by (first | omega | (dsimp only; omega) | (simp; done) | (simp; omega)))) ?_
    refine rj_stores ⟨Try.isAgg26, Try.sizeOf26⟩ rfl (wn0 rfl) rfl rfl (by (first | (simp [Value.oneCell']; done) | (intro u hu; simp only [List.mem_cons, List.not_mem_nil, or_false] at hu; rcases hu with rfl | rfl | rfl | rfl <;> first | rfl | assumption))) (by ((repeat (first | exact Find.head _ | apply Find.tail)); done)) (by (simp)) rfl ?_
    refine rj_val (wn0 rfl) rfl rfl (y_assign rfl) ?_
    refine rj_nil ?_
    refine hK5 _ _ _ ?_
    refine cj_env (Env.le_cons (t := 6) rfl (Env.le_cons (t := 7) rfl (Env.le_nil _))) ?_
    refine cj_ret ?_
    refine hret _ _ _ ?_
    apply ej_ret Try.results23 (.cons (rv_cells ⟨Try.isAgg26, Try.sizeOf26⟩ rfl (by ((repeat (first | exact Find.head _ | apply Find.tail)); done)) rfl rfl) (.cons (rv_tmp rfl) .nil)) _ [] (by (first | exact Hp.le_refl _ | assumption | exact Hp.le_trans ‹_› ‹_›)) rfl
    case hp => exact ⟨NAt.none_ rfl, rfl⟩
    case hS => (repeat (first | exact Sub.refl _ | (apply Sub.pick; focus (repeat (first | exact Find.head _ | apply Find.tail))) | apply Sub.drop))
  · try simp only [decide_eq_true_eq, decide_eq_false_iff_not, Bool.not_eq_true', Bool.not_eq_false', Bool.true_eq_false, Bool.false_eq_true] at hg22
    refine rj_val (wn1 rfl rfl rfl rfl) rfl rfl (y_move rfl) ?_
    refine rj_val (wn1 rfl rfl rfl rfl) rfl rfl (y_lss rfl rfl) ?_
    refine rj_val (wn0 rfl) rfl rfl (y_pick_f rfl rfl) ?_
    refine rj_nil ?_
    refine hK4 _ _ _ ?_
    refine cj_env (Env.le_cons (t := 0) rfl (Env.le_cons (t := 1) rfl (Env.le_cons (t := 2) rfl (Env.le_cons (t := 6) rfl (Env.le_cons (t := 8) rfl (Env.le_cons (t := 25) rfl (Env.le_nil _))))))) ?_
    refine cj_cond_t rfl ?_
    refine cj_seq (fun K6 hK6 => ?_)
    refine cj_region ?_
    first | refine rj_val (wn0 rfl) rfl rfl (y_loads_blk ⟨Try.isAgg26, Try.sizeOf26⟩ rfl (by ((repeat (first | exact Find.head _ | apply Find.tail)); done)) rfl rfl) ?_ | refine rj_val (wn0 rfl) rfl rfl (y_loads_slc ⟨Try.isAgg26, Try.sizeOf26⟩ rfl (by ((repeat (first | exact Find.head _ | apply Find.tail)); done)) rfl rfl (by (first | omega | (dsimp only; omega) | (simp; done) | (simp; omega)))) ?_
    refine rj_stores ⟨Try.isAgg26, Try.sizeOf26⟩ rfl (wn0 rfl) rfl rfl (by (first | (simp [Value.oneCell']; done) | (intro u hu; simp only [List.mem_cons, List.not_mem_nil, or_false] at hu; rcases hu with rfl | rfl | rfl | rfl <;> first | rfl | assumption))) (by ((repeat (first | exact Find.head _ | apply Find.tail)); done)) (by (simp)) rfl ?_
    refine rj_val (wn0 rfl) rfl rfl (y_assign rfl) ?_
    refine rj_nil ?_
    refine hK6 _ _ _ ?_
    refine cj_env (Env.le_cons (t := 6) rfl (Env.le_cons (t := 7) rfl (Env.le_nil _))) ?_
    refine cj_ret ?_
    refine hret _ _ _ ?_
    apply ej_ret Try.results23 (.cons (rv_cells ⟨Try.isAgg26, Try.sizeOf26⟩ rfl (by ((repeat (first | exact Find.head _ | apply Find.tail)); done)) rfl rfl) (.cons (rv_tmp rfl) .nil)) _ [] (by (first | exact Hp.le_refl _ | assumption | exact Hp.le_trans ‹_› ‹_›)) rfl
    case hp => exact ⟨NAt.none_ rfl, rfl⟩
    case hS => (repeat (first | exact Sub.refl _ | (apply Sub.pick; focus (repeat (first | exact Find.head _ | apply Find.tail))) | apply Sub.drop))
theorem byteAt_drop {s : List UInt8} {f i : Nat} : byteAt s ((f + i : Nat) : Int) = byteAt (s.drop f) (i : Int) := by
  unfold byteAt
  rw [Int.toNat_natCast, Int.toNat_natCast, List.getD_eq_getElem?_getD, List.getD_eq_getElem?_getD, List.getElem?_drop]
theorem rd_other {e n : Nat} {u : UInt8} {t q : List UInt8} (hz : szM 4 0 0 t = some (n, q)) (h1 : ¬ u.toNat = 110) (h2 : ¬ u.toNat = 115) (h3 : ¬ u.toNat = 108) : rdM (e + 1) (u :: t) = none := by
  have g1 : ¬ u = 110 := fun h => by subst h; exact h1 rfl
  have g2 : ¬ u = 115 := fun h => by subst h; exact h2 rfl
  have g3 : ¬ u = 108 := fun h => by subst h; exact h3 rfl
  rw [rdM, hz]; simp [g1, g2, g3]
theorem byteAt_take {s : List UInt8} {n i : Nat} (h : i < n) : byteAt (s.take n) (i : Int) = byteAt s (i : Int) := by
  simp [byteAt, List.getD_eq_getElem?_getD, List.getElem?_take, h]
section
variable {r : Option (Nd × List UInt8)} {s : List UInt8} {f n : Nat}
  (hr : r = (if n > 8 ∨ (s.drop f).length < n ∨ (n > 0 ∧ (s.drop f).head? = some 0) then none else some (.mk 0 (beN ((s.drop f).take n)) [] [], (s.drop f).drop n)))
include hr
theorem numAt_a (h : n > 8) : NumAt r s f n true := ⟨fun _ => by rw [hr, if_pos (.inl h)], fun h => (by cases h)⟩
theorem numAt_b (h : s.length < f + n) (hf : f ≤ s.length) : NumAt r s f n true := ⟨fun _ => by rw [hr, if_pos (.inr (.inl (by rw [List.length_drop]; omega)))], fun h => (by cases h)⟩
theorem numAt_c (h8 : ¬ n > 8) (hl : ¬ s.length < f + n) (h0 : n > 0) (hf : f ≤ s.length) : NumAt r s f n (decide (byteAt s (f : Int) = 0)) := by
  have hk := head_byte (t := s.drop f) (by rw [List.length_drop]; omega)
  rw [show (0 : Int) = ((0 : Nat) : Int) from rfl, ← byteAt_drop, Nat.add_zero] at hk
  refine ⟨fun h => ?_, fun h => ⟨by omega, by omega, ?_⟩⟩
  · rw [hr, if_pos (.inr (.inr ⟨h0, hk.1 (of_decide_eq_true h)⟩))]
  · rw [hr, if_neg, List.drop_drop]
    rintro (h1 | h1 | ⟨_, h1⟩)
    · exact h8 h1
    · rw [List.length_drop] at h1; omega
    · exact of_decide_eq_false h (hk.2 h1)
theorem numAt_d (h0 : n = 0) (hf : f ≤ s.length) : NumAt r s f n false := by
  refine ⟨fun h => (by cases h), fun _ => ⟨by omega, by omega, ?_⟩⟩
  rw [hr, if_neg (by rintro (h | h | h) <;> omega), List.drop_drop]
end
theorem rnodeAt_succ (e : Nat) (ih : RNodeAt e) : RNodeAt (e + 1) := by
  intro s a R hd hs ha
  have hs0 := hs
  have ha0 := ha
  unfold big at hs ha
  refine tri_of Try.func23 rfl Try.ntmps23 rfl (fun σ F Q hret hend hpan => ?_)
  try simp only [List.cons_append, List.nil_append]
  refine cj_env (Env.le_cons (t := 0) rfl (Env.le_cons (t := 1) rfl (Env.le_cons (t := 2) rfl (Env.le_nil _)))) ?_
  refine cj_seq (fun K1 hK1 => ?_)
  refine cj_region ?_
  refine rj_alloc (wn0 rfl) rfl Try.zeroValue26 rfl (fun bo => ?_)
  refine rj_val (wn0 rfl) rfl rfl (y_assign rfl) ?_
  refine rj_nil ?_
  refine hK1 _ _ _ ?_
  refine cj_seq (fun K2 hK2 => ?_)
  refine cj_region ?_
  refine rj_val (wn0 rfl) rfl rfl (y_build (cells := [_, _, _, _]) [(0, 1), (1, 1), (2, 1), (3, 1)] Try.underlying26 Try.zeroValue26 (fun _ => rfl) rfl rfl) ?_
  refine rj_alloc (wn0 rfl) rfl Try.zeroValue26 rfl (fun bz => ?_)
  refine rj_stores ⟨Try.isAgg26, Try.sizeOf26⟩ rfl (wn0 rfl) rfl rfl (by (first | (simp [Value.oneCell']; done) | (intro u hu; simp only [List.mem_cons, List.not_mem_nil, or_false] at hu; rcases hu with rfl | rfl | rfl | rfl <;> first | rfl | assumption))) (by ((repeat (first | exact Find.head _ | apply Find.tail)); done)) (by (simp)) rfl ?_
  refine rj_nil ?_
  refine hK2 _ _ _ ?_
  refine cj_seq (fun K3 hK3 => ?_)
  refine cj_seq (fun K4 hK4 => ?_)
  refine cj_region ?_
  refine rj_val (wn0 rfl) rfl rfl (y_move rfl) ?_
  refine rj_val (wn0 rfl) rfl rfl (y_move rfl) ?_
  refine rj_val (wn0 rfl) rfl rfl (y_slen Try.underlying9 rfl) ?_
  refine rj_val (wn0 rfl) rfl rfl (y_geq rfl rfl) ?_
  refine rj_val (wn0 rfl) rfl rfl (y_move rfl) ?_
  refine rj_part 22 rfl (fun hg22 => ?_) (fun hg22 => ?_)
  · (try simp only [decide_eq_true_eq, decide_eq_false_iff_not, Bool.not_eq_true', Bool.not_eq_false', Bool.true_eq_false, Bool.false_eq_true] at hg22)
    refine rj_skip (wn2 rfl rfl rfl rfl rfl) rfl rfl ?_
    refine rj_skip (wn2 rfl rfl rfl rfl rfl) rfl rfl ?_
    refine rj_val (wn0 rfl) rfl rfl (y_pick_t rfl rfl) ?_
    refine rj_nil ?_
    refine hK4 _ _ _ ?_
    refine cj_env (Env.le_cons (t := 0) rfl (Env.le_cons (t := 1) rfl (Env.le_cons (t := 2) rfl (Env.le_cons (t := 6) rfl (Env.le_cons (t := 8) rfl (Env.le_cons (t := 25) rfl (Env.le_nil _))))))) ?_
    refine cj_cond_t rfl ?_
    refine cj_seq (fun K5 hK5 => ?_)
    refine cj_region ?_
    first | refine rj_val (wn0 rfl) rfl rfl (y_loads_blk ⟨Try.isAgg26, Try.sizeOf26⟩ rfl (by ((repeat (first | exact Find.head _ | apply Find.tail)); done)) rfl rfl) ?_ | refine rj_val (wn0 rfl) rfl rfl (y_loads_slc ⟨Try.isAgg26, Try.sizeOf26⟩ rfl (by ((repeat (first | exact Find.head _ | apply Find.tail)); done)) rfl rfl (by (first | omega | (dsimp only; omega) | (simp; done) | (simp; omega)))) ?_
    refine rj_stores ⟨Try.isAgg26, Try.sizeOf26⟩ rfl (wn0 rfl) rfl rfl (by (first | (simp [Value.oneCell']; done) | (intro u hu; simp only [List.mem_cons, List.not_mem_nil, or_false] at hu; rcases hu with rfl | rfl | rfl | rfl <;> first | rfl | assumption))) (by ((repeat (first | exact Find.head _ | apply Find.tail)); done)) (by (simp)) rfl ?_
    refine rj_val (wn0 rfl) rfl rfl (y_assign rfl) ?_
    refine rj_nil ?_
    refine hK5 _ _ _ ?_
    refine cj_env (Env.le_cons (t := 6) rfl (Env.le_cons (t := 7) rfl (Env.le_nil _))) ?_
    refine cj_ret ?_
    refine hret _ _ _ ?_
    apply ej_ret Try.results23 (.cons (rv_cells ⟨Try.isAgg26, Try.sizeOf26⟩ rfl (by ((repeat (first | exact Find.head _ | apply Find.tail)); done)) rfl rfl) (.cons (rv_tmp rfl) .nil)) _ [] (by first | exact Hp.le_refl _ | exact Hp.le_trans hr1 hR2) rfl
    case hp => exact ⟨NAt.none_ (by rw [List.drop_of_length_le (by (try simp at hg22); omega)]; rfl), rfl⟩
    case hS => (repeat (first | exact Sub.refl _ | (apply Sub.pick; focus (repeat (first | exact Find.head _ | apply Find.tail))) | apply Sub.drop))
  · (try simp only [decide_eq_true_eq, decide_eq_false_iff_not, Bool.not_eq_true', Bool.not_eq_false', Bool.true_eq_false, Bool.false_eq_true] at hg22)
    obtain ⟨u, hu1, hu2⟩ := drop_at (s := s) (i := a) (by (try simp at hg22); omega)
    have ha1 : a < s.length := by (try simp at hg22); omega
    refine rj_val (wn1 rfl rfl rfl rfl) rfl rfl (y_move rfl) ?_
    refine rj_val (wn1 rfl rfl rfl rfl) rfl rfl (y_lss rfl rfl) ?_
    refine rj_val (wn0 rfl) rfl rfl (y_pick_f rfl rfl) ?_
    refine rj_nil ?_
    refine hK4 _ _ _ ?_
    refine cj_env (Env.le_cons (t := 0) rfl (Env.le_cons (t := 1) rfl (Env.le_cons (t := 2) rfl (Env.le_cons (t := 6) rfl (Env.le_cons (t := 8) rfl (Env.le_cons (t := 25) rfl (Env.le_nil _))))))) ?_
    refine cj_cond_f rfl ?_
    refine cj_skip ?_
    refine hK3 _ _ _ ?_
    refine cj_seq (fun K6 hK6 => ?_)
    refine cj_region ?_
    refine rj_val (wn0 rfl) rfl rfl (y_move rfl) ?_
    refine rj_val (wn0 rfl) rfl rfl (y_move rfl) ?_
    first | refine rj_val (wn0 rfl) rfl rfl (y_add64 rfl rfl (by (first | omega | (dsimp only; omega) | (simp; done) | (simp; omega)))) ?_ | refine rj_val (wn0 rfl) rfl rfl (y_add rfl rfl) ?_
    refine rj_val (wn0 rfl) rfl rfl (y_call Try.call36 rfl (rsize_q s (a + 1) hs0 (by omega)) (by (repeat (first | exact Split.nil _ | (apply Split.cons; focus (repeat (first | exact Find.head _ | apply Find.tail))))))) ?_
    refine rj_val (wn0 rfl) rfl rfl (y_move rfl) ?_
    refine rj_val (wn0 rfl) rfl rfl (y_extract rfl rfl) ?_
    refine rj_val (wn0 rfl) rfl rfl (y_extract rfl rfl) ?_
    refine rj_val (wn0 rfl) rfl rfl (y_assign rfl) ?_
    refine rj_val (wn0 rfl) rfl rfl (y_assign rfl) ?_
    refine rj_nil ?_
    refine hK6 _ _ _ ?_
    refine cj_env (Env.le_cons (t := 0) rfl (Env.le_cons (t := 1) rfl (Env.le_cons (t := 2) rfl (Env.le_cons (t := 6) rfl (Env.le_cons (t := 8) rfl (Env.le_cons (t := 9) rfl (Env.le_cons (t := 10) rfl (Env.le_nil _)))))))) ?_
    refine cj_seq (fun K7 hK7 => ?_)
    refine cj_seq (fun K8 hK8 => ?_)
    refine cj_region ?_
    refine rj_val (wn0 rfl) rfl rfl (y_move rfl) ?_
    refine rj_val (wn0 rfl) rfl rfl (y_lss rfl rfl) ?_
    refine rj_nil ?_
    refine hK8 _ _ _ ?_
    refine cj_cond rfl (fun hc35 => ?_) (fun hc35 => ?_)
    · (try simp only [decide_eq_true_eq, decide_eq_false_iff_not, Bool.not_eq_true', Bool.not_eq_false', Bool.true_eq_false, Bool.false_eq_true] at hc35); have hz := szAt_neg hc35
      refine cj_seq (fun K10 hK10 => ?_)
      refine cj_region ?_
      first | refine rj_val (wn0 rfl) rfl rfl (y_loads_blk ⟨Try.isAgg26, Try.sizeOf26⟩ rfl (by ((repeat (first | exact Find.head _ | apply Find.tail)); done)) rfl rfl) ?_ | refine rj_val (wn0 rfl) rfl rfl (y_loads_slc ⟨Try.isAgg26, Try.sizeOf26⟩ rfl (by ((repeat (first | exact Find.head _ | apply Find.tail)); done)) rfl rfl (by (first | omega | (dsimp only; omega) | (simp; done) | (simp; omega)))) ?_
      refine rj_stores ⟨Try.isAgg26, Try.sizeOf26⟩ rfl (wn0 rfl) rfl rfl (by (first | (simp [Value.oneCell']; done) | (intro u hu; simp only [List.mem_cons, List.not_mem_nil, or_false] at hu; rcases hu with rfl | rfl | rfl | rfl <;> first | rfl | assumption))) (by ((repeat (first | exact Find.head _ | apply Find.tail)); done)) (by (simp)) rfl ?_
      refine rj_val (wn0 rfl) rfl rfl (y_assign rfl) ?_
      refine rj_nil ?_
      refine hK10 _ _ _ ?_
      refine cj_env (Env.le_cons (t := 6) rfl (Env.le_cons (t := 7) rfl (Env.le_nil _))) ?_
      refine cj_ret ?_
      refine hret _ _ _ ?_
      apply ej_ret Try.results23 (.cons (rv_cells ⟨Try.isAgg26, Try.sizeOf26⟩ rfl (by ((repeat (first | exact Find.head _ | apply Find.tail)); done)) rfl rfl) (.cons (rv_tmp rfl) .nil)) _ [] (by first | exact Hp.le_refl _ | exact Hp.le_trans hr1 hR2) rfl
      case hp => exact ⟨NAt.none_ (by rw [hu1, rdM, hz]), rfl⟩
      case hS => (repeat (first | exact Sub.refl _ | (apply Sub.pick; focus (repeat (first | exact Find.head _ | apply Find.tail))) | apply Sub.drop))
    · (try simp only [decide_eq_true_eq, decide_eq_false_iff_not, Bool.not_eq_true', Bool.not_eq_false', Bool.true_eq_false, Bool.false_eq_true] at hc35); obtain ⟨n, f, hz, hf, hn, heq⟩ := szAt_pos (by omega) (by omega : ¬ (szAt s (a + 1)).2 < 0)
      rw [heq]
      refine cj_skip ?_
      refine hK7 _ _ _ ?_
      refine cj_seq (fun K11 hK11 => ?_)
      refine cj_seq (fun K12 hK12 => ?_)
      refine cj_region ?_
      refine rj_val (wn0 rfl) rfl rfl (y_move rfl) ?_
      refine rj_val (wn0 rfl) rfl rfl (y_move rfl) ?_
      refine rj_val (wn0 rfl) rfl rfl (y_index_s Try.underlying9 rfl rfl (by (first | omega | (dsimp only; omega) | (simp; done) | (simp; omega)))) ?_
      refine rj_eq 39 rfl (congrArg (Value.int .u8) hu2) ?_
      refine rj_nil ?_
      refine hK12 _ _ _ ?_
      refine cj_env (Env.le_cons (t := 0) rfl (Env.le_cons (t := 2) rfl (Env.le_cons (t := 6) rfl (Env.le_cons (t := 8) rfl (Env.le_cons (t := 9) rfl (Env.le_cons (t := 10) rfl (Env.le_cons (t := 39) rfl (Env.le_nil _)))))))) ?_
      refine cj_block ?_
      refine cj_seq (fun K13 hK13 => ?_)
      refine cj_region ?_
      refine rj_val (wn0 rfl) rfl rfl (y_eql rfl rfl) ?_
      refine rj_val (wn0 rfl) rfl rfl (y_assign rfl) ?_
      refine rj_nil ?_
      refine hK13 _ _ _ ?_
      refine cj_cond rfl (fun hc40 => ?_) (fun hc40 => ?_)
      · (try simp only [decide_eq_true_eq, decide_eq_false_iff_not, Bool.not_eq_true', Bool.not_eq_false', Bool.true_eq_false, Bool.false_eq_true] at hc40); obtain rfl : u = 110 := UInt8.toNat_inj.1 (by simpa using (by omega : u.toNat = 110))
        have hrd : rdM (e + 1) (s.drop a) = (if n > 8 ∨ (s.drop f).length < n ∨ (n > 0 ∧ (s.drop f).head? = some 0) then none else some (.mk 0 (beN ((s.drop f).take n)) [] [], (s.drop f).drop n)) := by rw [hu1, rdM, hz]; simp
        refine cj_seq (fun K15 hK15 => ?_)
        refine cj_seq (fun K16 hK16 => ?_)
        have hJ10 : ∀ (x : Bool), NumAt (rdM (e + 1) (s.drop a)) s f n x → EJ ⟨Try.prog, 130, σ⟩ K16 [(0, .string (str s)), (6, .pointer (some ⟨bo, 0, none⟩)), (8, .pointer (some ⟨bz, 0, none⟩)), (9, .int .i64 (n : Int)), (10, .int .i64 (f : Int)), (61, .bool x)] R (blk bz [.int .i64 0, .int .u64 0, .string (str []), .slice none 0 0] 26 :: blk bo [.int .i64 0, .int .u64 0, .string (str []), .slice none 0 0] 26 :: F) := by
          rintro x ⟨j1, j2⟩
          try dsimp only
          refine hK16 _ _ _ ?_
          refine cj_cond rfl (fun hc61 => ?_) (fun hc61 => ?_)
          · subst hc61
            refine cj_seq (fun K18 hK18 => ?_)
            refine cj_region ?_
            first | refine rj_val (wn0 rfl) rfl rfl (y_loads_blk ⟨Try.isAgg26, Try.sizeOf26⟩ rfl (by ((repeat (first | exact Find.head _ | apply Find.tail)); done)) rfl rfl) ?_ | refine rj_val (wn0 rfl) rfl rfl (y_loads_slc ⟨Try.isAgg26, Try.sizeOf26⟩ rfl (by ((repeat (first | exact Find.head _ | apply Find.tail)); done)) rfl rfl (by (first | omega | (dsimp only; omega) | (simp; done) | (simp; omega)))) ?_
            refine rj_stores ⟨Try.isAgg26, Try.sizeOf26⟩ rfl (wn0 rfl) rfl rfl (by (first | (simp [Value.oneCell']; done) | (intro u hu; simp only [List.mem_cons, List.not_mem_nil, or_false] at hu; rcases hu with rfl | rfl | rfl | rfl <;> first | rfl | assumption))) (by ((repeat (first | exact Find.head _ | apply Find.tail)); done)) (by (simp)) rfl ?_
            refine rj_val (wn0 rfl) rfl rfl (y_assign rfl) ?_
            refine rj_nil ?_
            refine hK18 _ _ _ ?_
            refine cj_env (Env.le_cons (t := 6) rfl (Env.le_cons (t := 7) rfl (Env.le_nil _))) ?_
            refine cj_ret ?_
            refine hret _ _ _ ?_
            apply ej_ret Try.results23 (.cons (rv_cells ⟨Try.isAgg26, Try.sizeOf26⟩ rfl (by ((repeat (first | exact Find.head _ | apply Find.tail)); done)) rfl rfl) (.cons (rv_tmp rfl) .nil)) _ [] (by first | exact Hp.le_refl _ | exact Hp.le_trans hr1 hR2) rfl
            case hp => exact ⟨NAt.none_ (j1 rfl), rfl⟩
            case hS => (repeat (first | exact Sub.refl _ | (apply Sub.pick; focus (repeat (first | exact Find.head _ | apply Find.tail))) | apply Sub.drop))
          · subst hc61
            obtain ⟨hn8, hfl, hrs⟩ := j2 rfl
            have htl : ((s.drop f).take n).length = n := by rw [List.length_take, List.length_drop]; omega
            refine cj_skip ?_
            refine hK15 _ _ _ ?_
            refine cj_seq (fun K19 hK19 => ?_)
            refine cj_region ?_
            refine rj_val (wn0 rfl) rfl rfl (y_assign rfl) ?_
            refine rj_nil ?_
            refine hK19 _ _ _ ?_
            refine cj_seq (fun K20 hK20 => ?_)
            refine cj_seq (fun K21 hK21 => ?_)
            refine cj_region ?_
            refine rj_val (wn0 rfl) rfl rfl (y_assign rfl) ?_
            refine rj_nil ?_
            refine hK21 _ _ _ ?_
            refine cj_block ?_
            refine cj_env (E' := (fun (x : Nat) => [(0, .string (str s)), (6, .pointer (some ⟨bo, 0, none⟩)), (9, .int .i64 (n : Int)), (10, .int .i64 (f : Int)), (11, .int .u64 (beN (((s.drop f).take n).take x) : Int)), (12, .int .i64 (x : Int))]) 0) (Env.le_cons rfl (Env.le_cons rfl (Env.le_cons rfl (Env.le_cons rfl (Env.le_cons rfl (Env.le_cons rfl (Env.le_nil _))))))) ?_
            refine cj_sub (M := (fun (x : Nat) => blk bo [.int .i64 0, .int .u64 0, .string (str []), .slice none 0 0] 26 :: F) 0) (by (repeat (first | exact Sub.refl _ | (apply Sub.pick; focus (repeat (first | exact Find.head _ | apply Find.tail))) | apply Sub.drop))) ?_
            refine cj_loop (fun (x : Nat) => [(0, .string (str s)), (6, .pointer (some ⟨bo, 0, none⟩)), (9, .int .i64 (n : Int)), (10, .int .i64 (f : Int)), (11, .int .u64 (beN (((s.drop f).take n).take x) : Int)), (12, .int .i64 (x : Int))]) (fun (x : Nat) => R) (fun (x : Nat) => blk bo [.int .i64 0, .int .u64 0, .string (str []), .slice none 0 0] 26 :: F) (fun (x : Nat) => x ≤ n) (fun (x : Nat) => n - x) 0 (by simp) ?_
            rintro i hI13
            try dsimp only
            refine cj_seq (fun K22 hK22 => ?_)
            refine cj_seq (fun K23 hK23 => ?_)
            refine cj_region ?_
            refine rj_val (wn0 rfl) rfl rfl (y_move rfl) ?_
            refine rj_val (wn0 rfl) rfl rfl (y_move rfl) ?_
            refine rj_val (wn0 rfl) rfl rfl (y_lss rfl rfl) ?_
            refine rj_nil ?_
            refine hK23 _ _ _ ?_
            refine cj_cond rfl (fun hc65 => ?_) (fun hc65 => ?_)
            · try simp only [decide_eq_true_eq, decide_eq_false_iff_not, Bool.not_eq_true', Bool.not_eq_false', Bool.true_eq_false, Bool.false_eq_true] at hc65
              refine cj_skip ?_
              refine hK22 _ _ _ ?_
              refine cj_env (Env.le_cons (t := 0) rfl (Env.le_cons (t := 6) rfl (Env.le_cons (t := 9) rfl (Env.le_cons (t := 10) rfl (Env.le_cons (t := 11) rfl (Env.le_cons (t := 12) rfl (Env.le_nil _))))))) ?_
              refine cj_seq (fun K25 hK25 => ?_)
              refine cj_block ?_
              refine cj_region ?_
              have hlt := beN_small (t := (s.drop f).take n) (i := i) (by omega) (by omega)
              have hbe := beN_take (t := (s.drop f).take n) (i := i) (by omega)
              rw [byteAt_take (by omega), ← byteAt_drop] at hbe
              have h4 := byteAt_bd s ((f + i : Nat) : Int)
              have h5 : ((f : Int) + (i : Int)) = ((f + i : Nat) : Int) := rfl
              refine rj_val (wn0 rfl) rfl rfl (y_move rfl) ?_
              first | refine rj_val (wn0 rfl) rfl rfl (y_mulu rfl rfl (by (first | omega | (dsimp only; omega) | (simp; done) | (simp; omega)))) ?_ | refine rj_val (wn0 rfl) rfl rfl (y_mul rfl rfl) ?_
              refine rj_val (wn0 rfl) rfl rfl (y_move rfl) ?_
              refine rj_val (wn0 rfl) rfl rfl (y_move rfl) ?_
              refine rj_val (wn0 rfl) rfl rfl (y_move rfl) ?_
              first | refine rj_val (wn0 rfl) rfl rfl (y_add64 rfl rfl (by (first | omega | (dsimp only; omega) | (simp; done) | (simp; omega)))) ?_ | refine rj_val (wn0 rfl) rfl rfl (y_add rfl rfl) ?_
              refine rj_eq 73 rfl (v' := .int .i64 ((f + i : Nat) : Int)) rfl ?_
              refine rj_val (wn0 rfl) rfl rfl (y_index_s Try.underlying9 rfl rfl (by (first | omega | (dsimp only; omega) | (simp; done) | (simp; omega)))) ?_
              refine rj_val (wn0 rfl) rfl rfl ((y_conv_in Try.underlying5 Try.underlying23 rfl (by simp only [IntKind.min, IntKind.max, IntKind.signed, IntKind.bits, Bool.false_eq_true, ite_false]; omega))) ?_
              first | refine rj_val (wn0 rfl) rfl rfl (y_addu rfl rfl (by (first | omega | (dsimp only; omega) | (simp; done) | (simp; omega)))) ?_ | refine rj_val (wn0 rfl) rfl rfl (y_add rfl rfl) ?_
              refine rj_eq 76 rfl (v' := .int .u64 (beN (((s.drop f).take n).take (i + 1)) : Int)) (by rw [hbe]; congr 1 <;> omega) ?_
              refine rj_val (wn0 rfl) rfl rfl (y_assign rfl) ?_
              refine rj_nil ?_
              refine hK25 _ _ _ ?_
              refine cj_env (Env.le_cons (t := 0) rfl (Env.le_cons (t := 6) rfl (Env.le_cons (t := 9) rfl (Env.le_cons (t := 10) rfl (Env.le_cons (t := 11) rfl (Env.le_cons (t := 12) rfl (Env.le_nil _))))))) ?_
              refine cj_region ?_
              refine rj_val (wn0 rfl) rfl rfl (y_move rfl) ?_
              first | refine rj_val (wn0 rfl) rfl rfl (y_add64 rfl rfl (by (first | omega | (dsimp only; omega) | (simp; done) | (simp; omega)))) ?_ | refine rj_val (wn0 rfl) rfl rfl (y_add rfl rfl) ?_
              refine rj_val (wn0 rfl) rfl rfl (y_assign rfl) ?_
              refine rj_nil ?_
              refine ej_on (q' := roundK _ _ _ _ _ _ _) rfl ?_
              refine ej_round (i + 1) (by omega) (by omega) (Env.le_cons rfl (Env.le_cons rfl (Env.le_cons rfl (Env.le_cons rfl (Env.le_cons rfl (Env.le_cons rfl (Env.le_nil _))))))) rfl (by (repeat (first | exact Sub.refl _ | (apply Sub.pick; focus (repeat (first | exact Find.head _ | apply Find.tail))) | apply Sub.drop)))
            · try simp only [decide_eq_true_eq, decide_eq_false_iff_not, Bool.not_eq_true', Bool.not_eq_false', Bool.true_eq_false, Bool.false_eq_true] at hc65
              refine cj_exit ?_
              refine hK20 _ _ _ ?_
              refine cj_env (Env.le_cons (t := 6) rfl (Env.le_cons (t := 9) rfl (Env.le_cons (t := 10) rfl (Env.le_cons (t := 11) rfl (Env.le_nil _))))) ?_
              refine cj_seq (fun K26 hK26 => ?_)
              refine cj_region ?_
              rw [List.take_of_length_le (by omega)]
              refine rj_val (wn0 rfl) rfl rfl (y_move rfl) ?_
              refine rj_val (wn0 rfl) rfl rfl (y_build (cells := [_, _, _, _]) [(0, 1), (1, 1), (2, 1), (3, 1)] Try.underlying26 Try.zeroValue26 (fun _ => rfl) rfl rfl) ?_
              refine rj_val (wn0 rfl) rfl rfl (y_move rfl) ?_
              refine rj_val (wn0 rfl) rfl rfl (y_move rfl) ?_
              first | refine rj_val (wn0 rfl) rfl rfl (y_add64 rfl rfl (by (first | omega | (dsimp only; omega) | (simp; done) | (simp; omega)))) ?_ | refine rj_val (wn0 rfl) rfl rfl (y_add rfl rfl) ?_
              refine rj_stores ⟨Try.isAgg26, Try.sizeOf26⟩ rfl (wn0 rfl) rfl rfl (by (first | (simp [Value.oneCell']; done) | (intro u hu; simp only [List.mem_cons, List.not_mem_nil, or_false] at hu; rcases hu with rfl | rfl | rfl | rfl <;> first | rfl | assumption))) (by ((repeat (first | exact Find.head _ | apply Find.tail)); done)) (by (simp)) rfl ?_
              refine rj_val (wn0 rfl) rfl rfl (y_assign rfl) ?_
              refine rj_nil ?_
              refine hK26 _ _ _ ?_
              refine cj_env (Env.le_cons (t := 6) rfl (Env.le_cons (t := 7) rfl (Env.le_nil _))) ?_
              refine cj_ret ?_
              refine hret _ _ _ ?_
              apply ej_ret Try.results23 (.cons (rv_cells ⟨Try.isAgg26, Try.sizeOf26⟩ rfl (by ((repeat (first | exact Find.head _ | apply Find.tail)); done)) rfl rfl) (.cons (rv_tmp rfl) .nil)) _ [] (by first | exact Hp.le_refl _ | exact Hp.le_trans hr1 hR2) rfl
              case hp => exact ⟨⟨_, _, _, rfl, RepL.node (k := 0) (s := []) (by simp [big]) (RepL.nil R), .inr ⟨f + n, hfl, by omega, hrs⟩⟩, rfl⟩
              case hS => (repeat (first | exact Sub.refl _ | (apply Sub.pick; focus (repeat (first | exact Find.head _ | apply Find.tail))) | apply Sub.drop))
        refine cj_region ?_
        refine rj_val (wn0 rfl) rfl rfl (y_move rfl) ?_
        refine rj_val (wn0 rfl) rfl rfl (y_gtr rfl rfl) ?_
        refine rj_val (wn0 rfl) rfl rfl (y_move rfl) ?_
        refine rj_part 44 rfl (fun hg44 => ?_) (fun hg44 => ?_)
        · (try simp only [decide_eq_true_eq, decide_eq_false_iff_not, Bool.not_eq_true', Bool.not_eq_false', Bool.true_eq_false, Bool.false_eq_true] at hg44)
          refine rj_skip (wn2 rfl rfl rfl rfl rfl) rfl rfl ?_
          refine rj_skip (wn2 rfl rfl rfl rfl rfl) rfl rfl ?_
          refine rj_skip (wn2 rfl rfl rfl rfl rfl) rfl rfl ?_
          refine rj_skip (wn2 rfl rfl rfl rfl rfl) rfl rfl ?_
          refine rj_skip (wn2 rfl rfl rfl rfl rfl) rfl rfl ?_
          refine rj_skip (wn2 rfl rfl rfl rfl rfl) rfl rfl ?_
          refine rj_val (wn0 rfl) rfl rfl (y_pick_t rfl rfl) ?_
          refine rj_val (wn0 rfl) rfl rfl (y_move rfl) ?_
          refine rj_skip (wn2 rfl rfl rfl rfl rfl) rfl rfl ?_
          refine rj_skip (wn2 rfl rfl rfl rfl rfl) rfl rfl ?_
          refine rj_skip (wn2 rfl rfl rfl rfl rfl) rfl rfl ?_
          refine rj_skip (wn3 rfl rfl rfl rfl) rfl rfl ?_
          refine rj_skip (wn3 rfl rfl rfl rfl) rfl rfl ?_
          refine rj_skip (wn3 rfl rfl rfl rfl) rfl rfl ?_
          refine rj_skip (wn3 rfl rfl rfl rfl) rfl rfl ?_
          refine rj_skip (wn2 rfl rfl rfl rfl rfl) rfl rfl ?_
          refine rj_val (wn0 rfl) rfl rfl (y_pick_t rfl rfl) ?_
          refine rj_nil ?_
          refine ej_join hJ10 (true) (numAt_a hrd (by (try simp at hg44); omega)) (Env.le_cons rfl (Env.le_cons rfl (Env.le_cons rfl (Env.le_cons rfl (Env.le_cons rfl (Env.le_cons rfl (Env.le_nil _))))))) rfl (by (repeat (first | exact Sub.refl _ | (apply Sub.pick; focus (repeat (first | exact Find.head _ | apply Find.tail))) | apply Sub.drop)))
        · (try simp only [decide_eq_true_eq, decide_eq_false_iff_not, Bool.not_eq_true', Bool.not_eq_false', Bool.true_eq_false, Bool.false_eq_true] at hg44)
          refine rj_val (wn1 rfl rfl rfl rfl) rfl rfl (y_move rfl) ?_
          refine rj_val (wn1 rfl rfl rfl rfl) rfl rfl (y_move rfl) ?_
          first | refine rj_val (wn1 rfl rfl rfl rfl) rfl rfl (y_add64 rfl rfl (by (first | omega | (dsimp only; omega) | (simp; done) | (simp; omega)))) ?_ | refine rj_val (wn1 rfl rfl rfl rfl) rfl rfl (y_add rfl rfl) ?_
          refine rj_val (wn1 rfl rfl rfl rfl) rfl rfl (y_move rfl) ?_
          refine rj_val (wn1 rfl rfl rfl rfl) rfl rfl (y_slen Try.underlying9 rfl) ?_
          refine rj_val (wn1 rfl rfl rfl rfl) rfl rfl (y_gtr rfl rfl) ?_
          refine rj_val (wn0 rfl) rfl rfl (y_pick_f rfl rfl) ?_
          refine rj_val (wn0 rfl) rfl rfl (y_move rfl) ?_
          refine rj_part 52 rfl (fun hg52 => ?_) (fun hg52 => ?_)
          · (try simp only [decide_eq_true_eq, decide_eq_false_iff_not, Bool.not_eq_true', Bool.not_eq_false', Bool.true_eq_false, Bool.false_eq_true] at hg52)
            refine rj_skip (wn2 rfl rfl rfl rfl rfl) rfl rfl ?_
            refine rj_skip (wn2 rfl rfl rfl rfl rfl) rfl rfl ?_
            refine rj_skip (wn2 rfl rfl rfl rfl rfl) rfl rfl ?_
            refine rj_skip (wn3 rfl rfl rfl rfl) rfl rfl ?_
            refine rj_skip (wn3 rfl rfl rfl rfl) rfl rfl ?_
            refine rj_skip (wn3 rfl rfl rfl rfl) rfl rfl ?_
            refine rj_skip (wn3 rfl rfl rfl rfl) rfl rfl ?_
            refine rj_skip (wn2 rfl rfl rfl rfl rfl) rfl rfl ?_
            refine rj_val (wn0 rfl) rfl rfl (y_pick_t rfl rfl) ?_
            refine rj_nil ?_
            refine ej_join hJ10 (true) (numAt_b hrd (by (try simp at hg52); omega) hf) (Env.le_cons rfl (Env.le_cons rfl (Env.le_cons rfl (Env.le_cons rfl (Env.le_cons rfl (Env.le_cons rfl (Env.le_nil _))))))) rfl (by (repeat (first | exact Sub.refl _ | (apply Sub.pick; focus (repeat (first | exact Find.head _ | apply Find.tail))) | apply Sub.drop)))
          · (try simp only [decide_eq_true_eq, decide_eq_false_iff_not, Bool.not_eq_true', Bool.not_eq_false', Bool.true_eq_false, Bool.false_eq_true] at hg52)
            have hfn : f + n ≤ s.length := by (try simp at hg52); omega
            refine rj_val (wn1 rfl rfl rfl rfl) rfl rfl (y_move rfl) ?_
            refine rj_val (wn1 rfl rfl rfl rfl) rfl rfl (y_gtr rfl rfl) ?_
            refine rj_val (wn1 rfl rfl rfl rfl) rfl rfl (y_move rfl) ?_
            refine rj_part 55 rfl (fun hg55 => ?_) (fun hg55 => ?_)
            · (try simp only [decide_eq_true_eq, decide_eq_false_iff_not, Bool.not_eq_true', Bool.not_eq_false', Bool.true_eq_false, Bool.false_eq_true] at hg55)
              refine rj_val (wn1 rfl rfl rfl rfl) rfl rfl (y_move rfl) ?_
              refine rj_val (wn1 rfl rfl rfl rfl) rfl rfl (y_move rfl) ?_
              refine rj_val (wn1 rfl rfl rfl rfl) rfl rfl (y_index_s Try.underlying9 rfl rfl (by (first | omega | (dsimp only; omega) | (simp; done) | (simp; omega)))) ?_
              refine rj_val (wn1 rfl rfl rfl rfl) rfl rfl (y_eql rfl rfl) ?_
              refine rj_val (wn1 rfl rfl rfl rfl) rfl rfl (y_pick_t rfl rfl) ?_
              refine rj_val (wn0 rfl) rfl rfl (y_pick_f rfl rfl) ?_
              refine rj_nil ?_
              refine ej_join hJ10 ((decide (byteAt s (f : Int) = 0))) (numAt_c hrd (by (try simp at hg44); omega) (by (try simp at hg52); omega) (by (try simp at hg55); omega) hf) (Env.le_cons rfl (Env.le_cons rfl (Env.le_cons rfl (Env.le_cons rfl (Env.le_cons rfl (Env.le_cons rfl (Env.le_nil _))))))) rfl (by (repeat (first | exact Sub.refl _ | (apply Sub.pick; focus (repeat (first | exact Find.head _ | apply Find.tail))) | apply Sub.drop)))
            · (try simp only [decide_eq_true_eq, decide_eq_false_iff_not, Bool.not_eq_true', Bool.not_eq_false', Bool.true_eq_false, Bool.false_eq_true] at hg55)
              refine rj_skip (wn2 rfl rfl rfl rfl rfl) rfl rfl ?_
              refine rj_skip (wn2 rfl rfl rfl rfl rfl) rfl rfl ?_
              refine rj_skip (wn2 rfl rfl rfl rfl rfl) rfl rfl ?_
              refine rj_skip (wn2 rfl rfl rfl rfl rfl) rfl rfl ?_
              refine rj_val (wn1 rfl rfl rfl rfl) rfl rfl (y_pick_f rfl rfl) ?_
              refine rj_val (wn0 rfl) rfl rfl (y_pick_f rfl rfl) ?_
              refine rj_nil ?_
              refine ej_join hJ10 (false) (numAt_d hrd (by (try simp at hg55); omega) hf) (Env.le_cons rfl (Env.le_cons rfl (Env.le_cons rfl (Env.le_cons rfl (Env.le_cons rfl (Env.le_cons rfl (Env.le_nil _))))))) rfl (by (repeat (first | exact Sub.refl _ | (apply Sub.pick; focus (repeat (first | exact Find.head _ | apply Find.tail))) | apply Sub.drop)))
      · try simp only [decide_eq_true_eq, decide_eq_false_iff_not, Bool.not_eq_true', Bool.not_eq_false', Bool.true_eq_false, Bool.false_eq_true] at hc40
        refine cj_seq (fun K27 hK27 => ?_)
        refine cj_region ?_
        refine rj_val (wn0 rfl) rfl rfl (y_eql rfl rfl) ?_
        refine rj_val (wn0 rfl) rfl rfl (y_assign rfl) ?_
        refine rj_nil ?_
        refine hK27 _ _ _ ?_
        refine cj_env (Env.le_cons (t := 0) rfl (Env.le_cons (t := 2) rfl (Env.le_cons (t := 6) rfl (Env.le_cons (t := 8) rfl (Env.le_cons (t := 9) rfl (Env.le_cons (t := 10) rfl (Env.le_cons (t := 39) rfl (Env.le_cons (t := 82) rfl (Env.le_nil _))))))))) ?_
        refine cj_cond rfl (fun hc82 => ?_) (fun hc82 => ?_)
        · (try simp only [decide_eq_true_eq, decide_eq_false_iff_not, Bool.not_eq_true', Bool.not_eq_false', Bool.true_eq_false, Bool.false_eq_true] at hc82); obtain rfl : u = 115 := UInt8.toNat_inj.1 (by simpa using (by omega : u.toNat = 115))
          have hrd : rdM (e + 1) (s.drop a) = (if (s.drop f).length < n then none else some (.mk 1 0 ((s.drop f).take n) [], (s.drop f).drop n)) := by rw [hu1, rdM, hz]; simp
          refine cj_seq (fun K29 hK29 => ?_)
          refine cj_seq (fun K30 hK30 => ?_)
          refine cj_region ?_
          refine rj_val (wn0 rfl) rfl rfl (y_move rfl) ?_
          refine rj_val (wn0 rfl) rfl rfl (y_move rfl) ?_
          first | refine rj_val (wn0 rfl) rfl rfl (y_add64 rfl rfl (by (first | omega | (dsimp only; omega) | (simp; done) | (simp; omega)))) ?_ | refine rj_val (wn0 rfl) rfl rfl (y_add rfl rfl) ?_
          refine rj_val (wn0 rfl) rfl rfl (y_move rfl) ?_
          refine rj_val (wn0 rfl) rfl rfl (y_slen Try.underlying9 rfl) ?_
          refine rj_val (wn0 rfl) rfl rfl (y_gtr rfl rfl) ?_
          refine rj_nil ?_
          refine hK30 _ _ _ ?_
          refine cj_env (Env.le_cons (t := 0) rfl (Env.le_cons (t := 6) rfl (Env.le_cons (t := 8) rfl (Env.le_cons (t := 9) rfl (Env.le_cons (t := 10) rfl (Env.le_cons (t := 89) rfl (Env.le_nil _))))))) ?_
          refine cj_cond rfl (fun hc89 => ?_) (fun hc89 => ?_)
          · (try simp only [decide_eq_true_eq, decide_eq_false_iff_not, Bool.not_eq_true', Bool.not_eq_false', Bool.true_eq_false, Bool.false_eq_true] at hc89)
            refine cj_seq (fun K32 hK32 => ?_)
            refine cj_region ?_
            first | refine rj_val (wn0 rfl) rfl rfl (y_loads_blk ⟨Try.isAgg26, Try.sizeOf26⟩ rfl (by ((repeat (first | exact Find.head _ | apply Find.tail)); done)) rfl rfl) ?_ | refine rj_val (wn0 rfl) rfl rfl (y_loads_slc ⟨Try.isAgg26, Try.sizeOf26⟩ rfl (by ((repeat (first | exact Find.head _ | apply Find.tail)); done)) rfl rfl (by (first | omega | (dsimp only; omega) | (simp; done) | (simp; omega)))) ?_
            refine rj_stores ⟨Try.isAgg26, Try.sizeOf26⟩ rfl (wn0 rfl) rfl rfl (by (first | (simp [Value.oneCell']; done) | (intro u hu; simp only [List.mem_cons, List.not_mem_nil, or_false] at hu; rcases hu with rfl | rfl | rfl | rfl <;> first | rfl | assumption))) (by ((repeat (first | exact Find.head _ | apply Find.tail)); done)) (by (simp)) rfl ?_
            refine rj_val (wn0 rfl) rfl rfl (y_assign rfl) ?_
            refine rj_nil ?_
            refine hK32 _ _ _ ?_
            refine cj_env (Env.le_cons (t := 6) rfl (Env.le_cons (t := 7) rfl (Env.le_nil _))) ?_
            refine cj_ret ?_
            refine hret _ _ _ ?_
            apply ej_ret Try.results23 (.cons (rv_cells ⟨Try.isAgg26, Try.sizeOf26⟩ rfl (by ((repeat (first | exact Find.head _ | apply Find.tail)); done)) rfl rfl) (.cons (rv_tmp rfl) .nil)) _ [] (by first | exact Hp.le_refl _ | exact Hp.le_trans hr1 hR2) rfl
            case hp => exact ⟨NAt.none_ (by rw [hrd, if_pos (by rw [List.length_drop]; (try simp at hc89); omega)]), rfl⟩
            case hS => (repeat (first | exact Sub.refl _ | (apply Sub.pick; focus (repeat (first | exact Find.head _ | apply Find.tail))) | apply Sub.drop))
          · (try simp only [decide_eq_true_eq, decide_eq_false_iff_not, Bool.not_eq_true', Bool.not_eq_false', Bool.true_eq_false, Bool.false_eq_true] at hc89)
            refine cj_skip ?_
            refine hK29 _ _ _ ?_
            refine cj_seq (fun K33 hK33 => ?_)
            refine cj_region ?_
            refine rj_val (wn0 rfl) rfl rfl (y_move rfl) ?_
            refine rj_val (wn0 rfl) rfl rfl (y_move rfl) ?_
            refine rj_val (wn0 rfl) rfl rfl (y_move rfl) ?_
            refine rj_val (wn0 rfl) rfl rfl (y_move rfl) ?_
            first | refine rj_val (wn0 rfl) rfl rfl (y_add64 rfl rfl (by (first | omega | (dsimp only; omega) | (simp; done) | (simp; omega)))) ?_ | refine rj_val (wn0 rfl) rfl rfl (y_add rfl rfl) ?_
            refine rj_val (wn0 rfl) rfl rfl (y_slice_s Try.underlying9 rfl rfl rfl (by (first | omega | (dsimp only; omega) | (simp; done) | (simp; omega)))) ?_
            refine rj_eq 96 rfl (v' := .string (str ((s.drop f).take n))) (by rw [show ((f : Int) + (n : Int)).toNat - ((f : Int)).toNat = n by omega, Int.toNat_natCast]) ?_
            refine rj_val (wn0 rfl) rfl rfl (y_build (cells := [_, _, _, _]) [(0, 1), (1, 1), (2, 1), (3, 1)] Try.underlying26 Try.zeroValue26 (fun _ => rfl) rfl rfl) ?_
            refine rj_val (wn0 rfl) rfl rfl (y_move rfl) ?_
            refine rj_val (wn0 rfl) rfl rfl (y_move rfl) ?_
            first | refine rj_val (wn0 rfl) rfl rfl (y_add64 rfl rfl (by (first | omega | (dsimp only; omega) | (simp; done) | (simp; omega)))) ?_ | refine rj_val (wn0 rfl) rfl rfl (y_add rfl rfl) ?_
            refine rj_stores ⟨Try.isAgg26, Try.sizeOf26⟩ rfl (wn0 rfl) rfl rfl (by (first | (simp [Value.oneCell']; done) | (intro u hu; simp only [List.mem_cons, List.not_mem_nil, or_false] at hu; rcases hu with rfl | rfl | rfl | rfl <;> first | rfl | assumption))) (by ((repeat (first | exact Find.head _ | apply Find.tail)); done)) (by (simp)) rfl ?_
            refine rj_val (wn0 rfl) rfl rfl (y_assign rfl) ?_
            refine rj_nil ?_
            refine hK33 _ _ _ ?_
            refine cj_env (Env.le_cons (t := 6) rfl (Env.le_cons (t := 7) rfl (Env.le_nil _))) ?_
            refine cj_ret ?_
            refine hret _ _ _ ?_
            apply ej_ret Try.results23 (.cons (rv_cells ⟨Try.isAgg26, Try.sizeOf26⟩ rfl (by ((repeat (first | exact Find.head _ | apply Find.tail)); done)) rfl rfl) (.cons (rv_tmp rfl) .nil)) _ [] (by first | exact Hp.le_refl _ | exact Hp.le_trans hr1 hR2) rfl
            case hp => exact ⟨⟨_, _, _, rfl, RepL.node (k := 1) (n := 0) (by unfold big; simp; omega) (RepL.nil R), .inr ⟨f + n, by (try simp at hc89); omega, by omega, by rw [hrd, if_neg (by rw [List.length_drop]; (try simp at hc89); omega), List.drop_drop]⟩⟩, rfl⟩
            case hS => (repeat (first | exact Sub.refl _ | (apply Sub.pick; focus (repeat (first | exact Find.head _ | apply Find.tail))) | apply Sub.drop))
        · try simp only [decide_eq_true_eq, decide_eq_false_iff_not, Bool.not_eq_true', Bool.not_eq_false', Bool.true_eq_false, Bool.false_eq_true] at hc82
          refine cj_seq (fun K34 hK34 => ?_)
          refine cj_region ?_
          refine rj_val (wn0 rfl) rfl rfl (y_eql rfl rfl) ?_
          refine rj_val (wn0 rfl) rfl rfl (y_assign rfl) ?_
          refine rj_nil ?_
          refine hK34 _ _ _ ?_
          refine cj_env (Env.le_cons (t := 0) rfl (Env.le_cons (t := 2) rfl (Env.le_cons (t := 6) rfl (Env.le_cons (t := 8) rfl (Env.le_cons (t := 9) rfl (Env.le_cons (t := 10) rfl (Env.le_cons (t := 101) rfl (Env.le_nil _)))))))) ?_
          refine cj_cond rfl (fun hc101 => ?_) (fun hc101 => ?_)
          · (try simp only [decide_eq_true_eq, decide_eq_false_iff_not, Bool.not_eq_true', Bool.not_eq_false', Bool.true_eq_false, Bool.false_eq_true] at hc101); obtain rfl : u = 108 := UInt8.toNat_inj.1 (by simpa using (by omega : u.toNat = 108))
            have hrd : rdM (e + 1) (s.drop a) = (match rdL (rdM e) n (s.drop f) with | none => none | some (l, r') => some (.mk 2 0 [] l, r')) := by rw [hu1, rdM, hz]; simp only; rw [if_neg (by decide), if_neg (by decide), if_pos trivial]; rfl
            refine cj_seq (fun K36 hK36 => ?_)
            refine cj_region ?_
            refine rj_val (wn0 rfl) rfl rfl (y_build (cells := [_, _, _, _]) [(0, 1), (1, 1), (2, 1), (3, 1)] Try.underlying26 Try.zeroValue26 (fun _ => rfl) rfl rfl) ?_
            refine rj_alloc (wn0 rfl) rfl Try.zeroValue26 rfl (fun bl => ?_)
            refine rj_stores ⟨Try.isAgg26, Try.sizeOf26⟩ rfl (wn0 rfl) rfl rfl (by (first | (simp [Value.oneCell']; done) | (intro u hu; simp only [List.mem_cons, List.not_mem_nil, or_false] at hu; rcases hu with rfl | rfl | rfl | rfl <;> first | rfl | assumption))) (by ((repeat (first | exact Find.head _ | apply Find.tail)); done)) (by (simp)) rfl ?_
            refine rj_add (A := slc 26 4 (.slice none 0 0) 0 []) (slc_nil _ _) ?_
            refine rj_nil ?_
            refine hK36 _ _ _ ?_
            refine cj_seq (fun K37 hK37 => ?_)
            refine cj_seq (fun K38 hK38 => ?_)
            refine cj_region ?_
            refine rj_val (wn0 rfl) rfl rfl (y_assign rfl) ?_
            refine rj_nil ?_
            refine hK38 _ _ _ ?_
            refine cj_block ?_
            refine cj_env (E' := (fun (x : List Nd × List (List Value) × Value × Nat × Hp) => [(0, .string (str s)), (2, .int .i64 ((e + 1 : Nat) : Int)), (6, .pointer (some ⟨bo, 0, none⟩)), (8, .pointer (some ⟨bz, 0, none⟩)), (9, .int .i64 (n : Int)), (10, .int .i64 (x.2.2.2.1 : Int)), (13, .pointer (some ⟨bl, 0, none⟩)), (14, .int .i64 (x.1.length : Int))]) ([], [], .slice none 0 0, f, R)) (Env.le_cons rfl (Env.le_cons rfl (Env.le_cons rfl (Env.le_cons rfl (Env.le_cons rfl (Env.le_cons rfl (Env.le_cons rfl (Env.le_cons (Eq.trans rfl (congrArg some (by first | rfl | (exact congrArg (Value.int .i64) (by simp))))) (Env.le_nil _))))))))) ?_
            refine cj_sub (M := (fun (x : List Nd × List (List Value) × Value × Nat × Hp) => slc 26 4 x.2.2.1 x.1.length x.2.1.flatten :: blk bl [.int .i64 2, .int .u64 0, .string (str []), x.2.2.1] 26 :: blk bz [.int .i64 0, .int .u64 0, .string (str []), .slice none 0 0] 26 :: blk bo [.int .i64 0, .int .u64 0, .string (str []), .slice none 0 0] 26 :: F) ([], [], .slice none 0 0, f, R)) (by (repeat (first | exact Sub.refl _ | (apply Sub.pick; focus (repeat (first | exact Find.head _ | apply Find.tail))) | apply Sub.drop))) ?_
            refine cj_loop (fun (x : List Nd × List (List Value) × Value × Nat × Hp) => [(0, .string (str s)), (2, .int .i64 ((e + 1 : Nat) : Int)), (6, .pointer (some ⟨bo, 0, none⟩)), (8, .pointer (some ⟨bz, 0, none⟩)), (9, .int .i64 (n : Int)), (10, .int .i64 (x.2.2.2.1 : Int)), (13, .pointer (some ⟨bl, 0, none⟩)), (14, .int .i64 (x.1.length : Int))]) (fun (x : List Nd × List (List Value) × Value × Nat × Hp) => x.2.2.2.2) (fun (x : List Nd × List (List Value) × Value × Nat × Hp) => slc 26 4 x.2.2.1 x.1.length x.2.1.flatten :: blk bl [.int .i64 2, .int .u64 0, .string (str []), x.2.2.1] 26 :: blk bz [.int .i64 0, .int .u64 0, .string (str []), .slice none 0 0] 26 :: blk bo [.int .i64 0, .int .u64 0, .string (str []), .slice none 0 0] 26 :: F) (fun (x : List Nd × List (List Value) × Value × Nat × Hp) => R.le x.2.2.2.2 ∧ x.1.length ≤ n ∧ Kids x.2.2.2.2 x.1 x.2.1 ∧ x.2.2.2.1 ≤ s.length ∧ rdL (rdM e) n (s.drop f) = (rdL (rdM e) (n - x.1.length) (s.drop x.2.2.2.1)).map (fun p => (x.1 ++ p.1, p.2))) (fun (x : List Nd × List (List Value) × Value × Nat × Hp) => n - x.1.length) ([], [], .slice none 0 0, f, R) (⟨Hp.le_refl R, by simp, ⟨rfl, fun i x cs h _ => by simp at h⟩, hf, by simp⟩) ?_
            rintro ⟨ks, css, v, fr, R1⟩ ⟨hr1, hi, hk, hfr, q1⟩
            try dsimp only
            dsimp only at hr1 hi hk hfr q1
            refine cj_seq (fun K39 hK39 => ?_)
            refine cj_seq (fun K40 hK40 => ?_)
            refine cj_region ?_
            refine rj_val (wn0 rfl) rfl rfl (y_move rfl) ?_
            refine rj_val (wn0 rfl) rfl rfl (y_move rfl) ?_
            refine rj_val (wn0 rfl) rfl rfl (y_lss rfl rfl) ?_
            refine rj_nil ?_
            refine hK40 _ _ _ ?_
            refine cj_cond rfl (fun hc106 => ?_) (fun hc106 => ?_)
            · try simp only [decide_eq_true_eq, decide_eq_false_iff_not, Bool.not_eq_true', Bool.not_eq_false', Bool.true_eq_false, Bool.false_eq_true] at hc106
              refine cj_skip ?_
              refine hK39 _ _ _ ?_
              refine cj_env (Env.le_cons (t := 0) rfl (Env.le_cons (t := 2) rfl (Env.le_cons (t := 6) rfl (Env.le_cons (t := 8) rfl (Env.le_cons (t := 9) rfl (Env.le_cons (t := 10) rfl (Env.le_cons (t := 13) rfl (Env.le_cons (t := 14) rfl (Env.le_nil _))))))))) ?_
              refine cj_seq (fun K42 hK42 => ?_)
              refine cj_block ?_
              refine cj_seq (fun K43 hK43 => ?_)
              refine cj_region ?_
              refine rj_val (wn0 rfl) rfl rfl (y_move rfl) ?_
              refine rj_val (wn0 rfl) rfl rfl (y_move rfl) ?_
              refine rj_val (wn0 rfl) rfl rfl (y_move rfl) ?_
              first | refine rj_val (wn0 rfl) rfl rfl (y_sub64 rfl rfl (by (first | omega | (dsimp only; omega) | (simp; done) | (simp; omega)))) ?_ | refine rj_val (wn0 rfl) rfl rfl (y_sub rfl rfl) ?_
              refine rj_eq 113 rfl (v' := .int .i64 (e : Int)) (by congr 1; omega) ?_
              refine rj_call (wn0 rfl) rfl Try.call23 rfl (ih s fr (by omega) hs0 (by unfold big; omega)) (by (repeat (first | exact Split.nil _ | (apply Split.cons; focus (repeat (first | exact Find.head _ | apply Find.tail)))))) (fun _ _ _ _ h => h.elim) ?_
              rintro r R2 L' hR2 ⟨⟨y, cy, z, rfl, hy, hcase⟩, rfl⟩
              obtain ⟨k1, n1, st1, l1, qq1, cap1, rfl, rfl, hb1, hl1⟩ := hy.inv
              try simp only [List.cons_append, List.nil_append]
              refine rj_val (wn0 rfl) rfl rfl (y_move rfl) ?_
              refine rj_val (wn0 rfl) rfl rfl (y_extract rfl rfl) ?_
              refine rj_val (wn0 rfl) rfl rfl (y_extract rfl rfl) ?_
              refine rj_alloc (wn0 rfl) rfl Try.zeroValue26 rfl (fun b15 => ?_)
              refine rj_stores ⟨Try.isAgg26, Try.sizeOf26⟩ rfl (wn0 rfl) rfl rfl (by (first | (simp [Value.oneCell']; done) | (intro u hu; simp only [List.mem_cons, List.not_mem_nil, or_false] at hu; rcases hu with rfl | rfl | rfl | rfl <;> first | rfl | assumption))) (by ((repeat (first | exact Find.head _ | apply Find.tail)); done)) (by (simp)) rfl ?_
              refine rj_val (wn0 rfl) rfl rfl (y_assign rfl) ?_
              refine rj_nil ?_
              refine hK43 _ _ _ ?_
              refine cj_env (Env.le_cons (t := 0) rfl (Env.le_cons (t := 2) rfl (Env.le_cons (t := 6) rfl (Env.le_cons (t := 8) rfl (Env.le_cons (t := 9) rfl (Env.le_cons (t := 13) rfl (Env.le_cons (t := 14) rfl (Env.le_cons (t := 15) rfl (Env.le_cons (t := 16) rfl (Env.le_nil _)))))))))) ?_
              refine cj_seq (fun K44 hK44 => ?_)
              refine cj_seq (fun K45 hK45 => ?_)
              refine cj_region ?_
              refine rj_val (wn0 rfl) rfl rfl (y_move rfl) ?_
              refine rj_val (wn0 rfl) rfl rfl (y_lss rfl rfl) ?_
              refine rj_nil ?_
              refine hK45 _ _ _ ?_
              refine cj_cond rfl (fun hc118 => ?_) (fun hc118 => ?_)
              · (try simp only [decide_eq_true_eq, decide_eq_false_iff_not, Bool.not_eq_true', Bool.not_eq_false', Bool.true_eq_false, Bool.false_eq_true] at hc118)
                refine cj_seq (fun K47 hK47 => ?_)
                refine cj_region ?_
                first | refine rj_val (wn0 rfl) rfl rfl (y_loads_blk ⟨Try.isAgg26, Try.sizeOf26⟩ rfl (by ((repeat (first | exact Find.head _ | apply Find.tail)); done)) rfl rfl) ?_ | refine rj_val (wn0 rfl) rfl rfl (y_loads_slc ⟨Try.isAgg26, Try.sizeOf26⟩ rfl (by ((repeat (first | exact Find.head _ | apply Find.tail)); done)) rfl rfl (by (first | omega | (dsimp only; omega) | (simp; done) | (simp; omega)))) ?_
                refine rj_stores ⟨Try.isAgg26, Try.sizeOf26⟩ rfl (wn0 rfl) rfl rfl (by (first | (simp [Value.oneCell']; done) | (intro u hu; simp only [List.mem_cons, List.not_mem_nil, or_false] at hu; rcases hu with rfl | rfl | rfl | rfl <;> first | rfl | assumption))) (by ((repeat (first | exact Find.head _ | apply Find.tail)); done)) (by (simp)) rfl ?_
                refine rj_val (wn0 rfl) rfl rfl (y_assign rfl) ?_
                refine rj_nil ?_
                refine hK47 _ _ _ ?_
                refine cj_env (Env.le_cons (t := 6) rfl (Env.le_cons (t := 7) rfl (Env.le_nil _))) ?_
                refine cj_ret ?_
                refine hret _ _ _ ?_
                apply ej_ret Try.results23 (.cons (rv_cells ⟨Try.isAgg26, Try.sizeOf26⟩ rfl (by ((repeat (first | exact Find.head _ | apply Find.tail)); done)) rfl rfl) (.cons (rv_tmp rfl) .nil)) _ [] (by first | exact Hp.le_refl _ | exact Hp.le_trans hr1 hR2) rfl
                case hp => exact ⟨NAt.none_ (by rcases hcase with h | ⟨e2, h1, h2, h3⟩; rw [hrd, rdL_none q1 (m' := n - ks.length - 1) (by (try simp at hc106); omega) h.1]; (try simp at hc118); omega), rfl⟩
                case hS => (repeat (first | exact Sub.refl _ | (apply Sub.pick; focus (repeat (first | exact Find.head _ | apply Find.tail))) | apply Sub.drop))
              · (try simp only [decide_eq_true_eq, decide_eq_false_iff_not, Bool.not_eq_true', Bool.not_eq_false', Bool.true_eq_false, Bool.false_eq_true] at hc118)
                obtain ⟨e2, he2, rfl, hre⟩ : ∃ e : Nat, e ≤ s.length ∧ z = e ∧ rdM _ (s.drop fr) = some (Nd.mk k1 n1 st1 l1, s.drop e) := by rcases hcase with h | h; (try simp at hc118); omega; exact h
                refine cj_skip ?_
                refine hK44 _ _ _ ?_
                refine cj_seq (fun K48 hK48 => ?_)
                refine cj_region ?_
                refine rj_val (wn0 rfl) rfl rfl (y_fieldAddr (k := 3) Try.underlying26 rfl (n := 1) (by decide) Try.sizeOf24 rfl) ?_
                first | refine rj_val (wn0 rfl) rfl rfl (y_load ⟨Try.isAgg24, Try.sizeOf24⟩ rfl (by ((repeat (first | exact Find.head _ | apply Find.tail)); done)) rfl) ?_ | refine rj_val (wn0 rfl) rfl rfl (y_load_slc ⟨Try.isAgg24, Try.sizeOf24⟩ rfl (by ((repeat (first | exact Find.head _ | apply Find.tail)); done)) rfl) ?_
                first | refine rj_val (wn0 rfl) rfl rfl (y_loads_blk ⟨Try.isAgg26, Try.sizeOf26⟩ rfl (by ((repeat (first | exact Find.head _ | apply Find.tail)); done)) rfl rfl) ?_ | refine rj_val (wn0 rfl) rfl rfl (y_loads_slc ⟨Try.isAgg26, Try.sizeOf26⟩ rfl (by ((repeat (first | exact Find.head _ | apply Find.tail)); done)) rfl rfl (by (first | omega | (dsimp only; omega) | (simp; done) | (simp; omega)))) ?_
                refine rj_buildSlice (sz := 4) (wn0 rfl) rfl Try.underlying24 Try.sizeOf26 Try.zeroValue26 rfl rfl rfl (by decide) (by decide) (fun b123 => ?_)
                refine rj_append (sz := 4) (by_ := 56) ⟨Try.underlying24, _, _, rfl, rfl, rfl, rfl, rfl⟩ (wn0 rfl) rfl rfl rfl (by ((repeat (first | exact Find.head _ | apply Find.tail)); done)) (src_slc Try.underlying24 (by ((repeat (first | exact Find.head _ | apply Find.tail)); done)) (rep_one hy)) rfl (by (first | omega | (dsimp only; omega) | (simp; done) | (simp; omega))) (by simp only [maxLen]; omega) (fun v124 ho124 hh124 => ?_)
                rw [flat_snoc css, len_snoc ks (Nd.mk k1 n1 st1 l1)]
                refine rj_val (wn0 rfl) rfl rfl (y_fieldAddr (k := 3) Try.underlying26 rfl (n := 1) (by decide) Try.sizeOf24 rfl) ?_
                refine rj_store ⟨Try.isAgg24, Try.sizeOf24⟩ (wn0 rfl) rfl rfl (by (first | rfl | assumption | (apply cutV_one; assumption))) (by ((repeat (first | exact Find.head _ | apply Find.tail)); done)) rfl rfl ?_
                refine rj_nil ?_
                refine hK48 _ _ _ ?_
                refine cj_env (Env.le_cons (t := 0) rfl (Env.le_cons (t := 2) rfl (Env.le_cons (t := 6) rfl (Env.le_cons (t := 8) rfl (Env.le_cons (t := 9) rfl (Env.le_cons (t := 13) rfl (Env.le_cons (t := 14) rfl (Env.le_cons (t := 16) rfl (Env.le_nil _))))))))) ?_
                refine cj_region ?_
                refine rj_val (wn0 rfl) rfl rfl (y_move rfl) ?_
                refine rj_val (wn0 rfl) rfl rfl (y_assign rfl) ?_
                refine rj_nil ?_
                refine hK42 _ _ _ ?_
                refine cj_region ?_
                refine rj_val (wn0 rfl) rfl rfl (y_move rfl) ?_
                first | refine rj_val (wn0 rfl) rfl rfl (y_add64 rfl rfl (by (first | omega | (dsimp only; omega) | (simp; done) | (simp; omega)))) ?_ | refine rj_val (wn0 rfl) rfl rfl (y_add rfl rfl) ?_
                refine rj_val (wn0 rfl) rfl rfl (y_assign rfl) ?_
                refine rj_nil ?_
                refine ej_on (q' := roundK _ _ _ _ _ _ _) rfl ?_
                refine ej_round ((ks ++ [Nd.mk k1 n1 st1 l1], css ++ [[.int .i64 k1, .int .u64 ((n1 : Nat) : Int), .string (str st1), .slice qq1 l1.length cap1]], v124, e2, R2)) (⟨Hp.le_trans hr1 hR2, by dsimp only; rw [List.length_append]; (try simp at hc106); simp; omega, (hk.mono hR2).snoc hy, he2, by dsimp only; rw [List.length_append]; exact rdL_app q1 (by (try simp at hc106); simp; omega) hre⟩) (by dsimp only; rw [List.length_append]; (try simp at hc106); simp; omega) (Env.le_cons rfl (Env.le_cons rfl (Env.le_cons rfl (Env.le_cons rfl (Env.le_cons rfl (Env.le_cons rfl (Env.le_cons rfl (Env.le_cons (Eq.trans rfl (congrArg some (by first | rfl | (exact congrArg (Value.int .i64) (by simp))))) (Env.le_nil _))))))))) rfl (by (repeat (first | exact Sub.refl _ | (apply Sub.pick; focus (repeat (first | exact Find.head _ | apply Find.tail))) | apply Sub.drop)))
            · try simp only [decide_eq_true_eq, decide_eq_false_iff_not, Bool.not_eq_true', Bool.not_eq_false', Bool.true_eq_false, Bool.false_eq_true] at hc106
              refine cj_exit ?_
              refine hK37 _ _ _ ?_
              refine cj_env (Env.le_cons (t := 6) rfl (Env.le_cons (t := 10) rfl (Env.le_cons (t := 13) rfl (Env.le_nil _)))) ?_
              refine cj_seq (fun K49 hK49 => ?_)
              refine cj_region ?_
              refine rj_freeze (e := 26) (sz := 4) (n := ks.length) (v := v) (xs := css.flatten) (by ((repeat (first | exact Find.head _ | apply Find.tail)); done)) (fun R2 hR2 hfr2 hxl => ?_)
              have hkb : ks.length ≤ big := by unfold big; omega
              obtain ⟨q, cap, rfl, hrl⟩ := (hk.mono hR2).repL hfr2 hkb
              first | refine rj_val (wn0 rfl) rfl rfl (y_loads_blk ⟨Try.isAgg26, Try.sizeOf26⟩ rfl (by ((repeat (first | exact Find.head _ | apply Find.tail)); done)) rfl rfl) ?_ | refine rj_val (wn0 rfl) rfl rfl (y_loads_slc ⟨Try.isAgg26, Try.sizeOf26⟩ rfl (by ((repeat (first | exact Find.head _ | apply Find.tail)); done)) rfl rfl (by (first | omega | (dsimp only; omega) | (simp; done) | (simp; omega)))) ?_
              refine rj_val (wn0 rfl) rfl rfl (y_move rfl) ?_
              refine rj_stores ⟨Try.isAgg26, Try.sizeOf26⟩ rfl (wn0 rfl) rfl rfl (by (first | (simp [Value.oneCell']; done) | (intro u hu; simp only [List.mem_cons, List.not_mem_nil, or_false] at hu; rcases hu with rfl | rfl | rfl | rfl <;> first | rfl | assumption))) (by ((repeat (first | exact Find.head _ | apply Find.tail)); done)) (by (simp)) rfl ?_
              refine rj_val (wn0 rfl) rfl rfl (y_assign rfl) ?_
              refine rj_nil ?_
              refine hK49 _ _ _ ?_
              refine cj_env (Env.le_cons (t := 6) rfl (Env.le_cons (t := 7) rfl (Env.le_nil _))) ?_
              refine cj_ret ?_
              refine hret _ _ _ ?_
              apply ej_ret Try.results23 (.cons (rv_cells ⟨Try.isAgg26, Try.sizeOf26⟩ rfl (by ((repeat (first | exact Find.head _ | apply Find.tail)); done)) rfl rfl) (.cons (rv_tmp rfl) .nil)) _ [] (by first | exact Hp.le_refl _ | exact Hp.le_trans hr1 hR2) rfl
              case hp => exact ⟨⟨.mk 2 0 [] ks, _, _, rfl, hrl.node (by simp [big]), .inr ⟨fr, hfr, rfl, by rw [hrd, q1, show n - ks.length = 0 by (try simp at hc106); omega]; simp [rdL]⟩⟩, rfl⟩
              case hS => (repeat (first | exact Sub.refl _ | (apply Sub.pick; focus (repeat (first | exact Find.head _ | apply Find.tail))) | apply Sub.drop))
          · try simp only [decide_eq_true_eq, decide_eq_false_iff_not, Bool.not_eq_true', Bool.not_eq_false', Bool.true_eq_false, Bool.false_eq_true] at hc101
            refine cj_skip ?_
            refine hK11 _ _ _ ?_
            refine cj_env (Env.le_cons (t := 6) rfl (Env.le_cons (t := 8) rfl (Env.le_nil _))) ?_
            refine cj_seq (fun K50 hK50 => ?_)
            refine cj_region ?_
            first | refine rj_val (wn0 rfl) rfl rfl (y_loads_blk ⟨Try.isAgg26, Try.sizeOf26⟩ rfl (by ((repeat (first | exact Find.head _ | apply Find.tail)); done)) rfl rfl) ?_ | refine rj_val (wn0 rfl) rfl rfl (y_loads_slc ⟨Try.isAgg26, Try.sizeOf26⟩ rfl (by ((repeat (first | exact Find.head _ | apply Find.tail)); done)) rfl rfl (by (first | omega | (dsimp only; omega) | (simp; done) | (simp; omega)))) ?_
            refine rj_stores ⟨Try.isAgg26, Try.sizeOf26⟩ rfl (wn0 rfl) rfl rfl (by (first | (simp [Value.oneCell']; done) | (intro u hu; simp only [List.mem_cons, List.not_mem_nil, or_false] at hu; rcases hu with rfl | rfl | rfl | rfl <;> first | rfl | assumption))) (by ((repeat (first | exact Find.head _ | apply Find.tail)); done)) (by (simp)) rfl ?_
            refine rj_val (wn0 rfl) rfl rfl (y_assign rfl) ?_
            refine rj_nil ?_
            refine hK50 _ _ _ ?_
            refine cj_ret ?_
            refine hret _ _ _ ?_
            apply ej_ret Try.results23 (.cons (rv_cells ⟨Try.isAgg26, Try.sizeOf26⟩ rfl (by ((repeat (first | exact Find.head _ | apply Find.tail)); done)) rfl rfl) (.cons (rv_tmp rfl) .nil)) _ [] (by first | exact Hp.le_refl _ | exact Hp.le_trans hr1 hR2) rfl
            case hp => exact ⟨NAt.none_ (by rw [hu1]; exact rd_other hz (by omega) (by omega) (by omega)), rfl⟩
            case hS => (repeat (first | exact Sub.refl _ | (apply Sub.pick; focus (repeat (first | exact Find.head _ | apply Find.tail))) | apply Sub.drop))
theorem rnodeAt_t (d : Nat) : RNodeAt d := by
  induction d with
  | zero => exact rnodeAt_zero
  | succ e ih => exact rnodeAt_succ e ih
theorem readM_cut {s : List UInt8} {y : Nd} {z : Int} (h : (rdM 20 s = none ∧ z = -1 ∧ y = ndZero) ∨ ∃ e : Nat, e ≤ s.length ∧ z = e ∧ rdM 20 s = some (y, s.drop e)) (hz : ¬ z = s.length) : readM s = (ndZero, false) := by
  rcases h with ⟨h, _, _⟩ | ⟨e, h1, h2, h3⟩
  · exact readM_none fun _ => h
  · exact readM_rest (fun _ => h3) (fun he => by have := congrArg List.length he; simp at this; omega)
theorem readM_full {s : List UInt8} {y : Nd} {z : Int} (h : (rdM 20 s = none ∧ z = -1 ∧ y = ndZero) ∨ ∃ e : Nat, e ≤ s.length ∧ z = e ∧ rdM 20 s = some (y, s.drop e)) (hl : ¬ s.length > 16777216) (hz : z = s.length) : readM s = (y, true) := by
  rcases h with ⟨_, h, _⟩ | ⟨e, h1, h2, h3⟩
  · omega
  · have : e = s.length := by omega
    subst this
    exact readM_some hl (by rw [h3]; simp)
theorem rread_t {R : Hp} (s : List UInt8) (hs : s.length ≤ big) : Tri Try.prog 11 [.string (str s)] R []
    (fun r R' L' => ∃ cy, r = .tuple #[.agg ⟨cy⟩, .bool (readM s).2] ∧ RepN R' (readM s).1 cy ∧ L' = []) := by
  have hbg : s.length ≤ 1000000000000 := hs
  refine tri_of Try.func11 rfl Try.ntmps11 rfl (fun σ F Q hret hend hpan => ?_)
  try simp only [List.cons_append, List.nil_append]
  refine cj_env (Env.le_cons (t := 0) rfl (Env.le_nil _)) ?_
  refine cj_seq (fun K1 hK1 => ?_)
  refine cj_region ?_
  refine rj_alloc (wn0 rfl) rfl Try.zeroValue26 rfl (fun b2 => ?_)
  refine rj_val (wn0 rfl) rfl rfl (y_assign rfl) ?_
  refine rj_nil ?_
  refine hK1 _ _ _ ?_
  refine cj_seq (fun K2 hK2 => ?_)
  refine cj_seq (fun K3 hK3 => ?_)
  refine cj_region ?_
  refine rj_val (wn0 rfl) rfl rfl (y_move rfl) ?_
  refine rj_val (wn0 rfl) rfl rfl (y_slen Try.underlying9 rfl) ?_
  refine rj_val (wn0 rfl) rfl rfl (y_gtr rfl rfl) ?_
  refine rj_nil ?_
  refine hK3 _ _ _ ?_
  refine cj_env (Env.le_cons (t := 0) rfl (Env.le_cons (t := 2) rfl (Env.le_cons (t := 8) rfl (Env.le_nil _)))) ?_
  refine cj_cond rfl (fun hc8 => ?_) (fun hc8 => ?_)
  · try simp only [decide_eq_true_eq, decide_eq_false_iff_not, Bool.not_eq_true', Bool.not_eq_false', Bool.true_eq_false, Bool.false_eq_true] at hc8
    refine cj_seq (fun K5 hK5 => ?_)
    refine cj_region ?_
    refine rj_val (wn0 rfl) rfl rfl (y_build (cells := [_, _, _, _]) [(0, 1), (1, 1), (2, 1), (3, 1)] Try.underlying26 Try.zeroValue26 (fun _ => rfl) rfl rfl) ?_
    refine rj_stores ⟨Try.isAgg26, Try.sizeOf26⟩ rfl (wn0 rfl) rfl rfl (by (first | (simp [Value.oneCell']; done) | (intro u hu; simp only [List.mem_cons, List.not_mem_nil, or_false] at hu; rcases hu with rfl | rfl | rfl | rfl <;> first | rfl | assumption))) (by ((repeat (first | exact Find.head _ | apply Find.tail)); done)) (by (simp)) rfl ?_
    refine rj_val (wn0 rfl) rfl rfl (y_assign rfl) ?_
    refine rj_nil ?_
    refine hK5 _ _ _ ?_
    refine cj_env (Env.le_cons (t := 2) rfl (Env.le_cons (t := 3) rfl (Env.le_nil _))) ?_
    refine cj_ret ?_
    refine hret _ _ _ ?_
    apply ej_ret Try.results11 (.cons (rv_cells ⟨Try.isAgg26, Try.sizeOf26⟩ rfl (by ((repeat (first | exact Find.head _ | apply Find.tail)); done)) rfl rfl) (.cons (rv_tmp rfl) .nil)) _ [] (by (first | exact Hp.le_refl _ | assumption | exact Hp.le_trans ‹_› ‹_›)) rfl
    case hp => rw [readM_none (fun hl => absurd (show s.length > 16777216 by (try simp at hc8); omega) hl)]; exact ⟨_, rfl, zero_rep R, rfl⟩
    case hS => (repeat (first | exact Sub.refl _ | (apply Sub.pick; focus (repeat (first | exact Find.head _ | apply Find.tail))) | apply Sub.drop))
  · try simp only [decide_eq_true_eq, decide_eq_false_iff_not, Bool.not_eq_true', Bool.not_eq_false', Bool.true_eq_false, Bool.false_eq_true] at hc8
    refine cj_skip ?_
    refine hK2 _ _ _ ?_
    refine cj_seq (fun K6 hK6 => ?_)
    refine cj_region ?_
    refine rj_val (wn0 rfl) rfl rfl (y_move rfl) ?_
    refine rj_call (wn0 rfl) rfl Try.call23 rfl (rnodeAt_t 20 s 0 (by decide) hs (by decide)) (by (repeat (first | exact Split.nil _ | (apply Split.cons; focus (repeat (first | exact Find.head _ | apply Find.tail)))))) (fun _ _ _ _ h => h.elim) ?_
    rintro r R' L' hR ⟨⟨y, cy, z, rfl, hy, hcase⟩, rfl⟩
    obtain ⟨k1, n1, st1, l1, qq1, cap1, rfl, rfl, hb1, hl1⟩ := hy.inv
    rw [List.drop_zero] at hcase
    try simp only [List.cons_append, List.nil_append]
    refine rj_val (wn0 rfl) rfl rfl (y_move rfl) ?_
    refine rj_val (wn0 rfl) rfl rfl (y_extract rfl rfl) ?_
    refine rj_val (wn0 rfl) rfl rfl (y_extract rfl rfl) ?_
    refine rj_alloc (wn0 rfl) rfl Try.zeroValue26 rfl (fun b4 => ?_)
    refine rj_stores ⟨Try.isAgg26, Try.sizeOf26⟩ rfl (wn0 rfl) rfl rfl (by (first | (simp [Value.oneCell']; done) | (intro u hu; simp only [List.mem_cons, List.not_mem_nil, or_false] at hu; rcases hu with rfl | rfl | rfl | rfl <;> first | rfl | assumption))) (by ((repeat (first | exact Find.head _ | apply Find.tail)); done)) (by (simp)) rfl ?_
    refine rj_val (wn0 rfl) rfl rfl (y_assign rfl) ?_
    refine rj_nil ?_
    refine hK6 _ _ _ ?_
    refine cj_env (Env.le_cons (t := 0) rfl (Env.le_cons (t := 2) rfl (Env.le_cons (t := 4) rfl (Env.le_cons (t := 5) rfl (Env.le_nil _))))) ?_
    refine cj_seq (fun K7 hK7 => ?_)
    refine cj_seq (fun K8 hK8 => ?_)
    refine cj_region ?_
    refine rj_val (wn0 rfl) rfl rfl (y_move rfl) ?_
    refine rj_val (wn0 rfl) rfl rfl (y_move rfl) ?_
    refine rj_val (wn0 rfl) rfl rfl (y_slen Try.underlying9 rfl) ?_
    refine rj_val (wn0 rfl) rfl rfl (y_neq rfl rfl) ?_
    refine rj_nil ?_
    refine hK8 _ _ _ ?_
    refine cj_env (Env.le_cons (t := 2) rfl (Env.le_cons (t := 4) rfl (Env.le_cons (t := 18) rfl (Env.le_nil _)))) ?_
    refine cj_cond rfl (fun hc18 => ?_) (fun hc18 => ?_)
    · try simp only [decide_eq_true_eq, decide_eq_false_iff_not, Bool.not_eq_true', Bool.not_eq_false', Bool.true_eq_false, Bool.false_eq_true] at hc18
      refine cj_seq (fun K10 hK10 => ?_)
      refine cj_region ?_
      refine rj_val (wn0 rfl) rfl rfl (y_build (cells := [_, _, _, _]) [(0, 1), (1, 1), (2, 1), (3, 1)] Try.underlying26 Try.zeroValue26 (fun _ => rfl) rfl rfl) ?_
      refine rj_stores ⟨Try.isAgg26, Try.sizeOf26⟩ rfl (wn0 rfl) rfl rfl (by (first | (simp [Value.oneCell']; done) | (intro u hu; simp only [List.mem_cons, List.not_mem_nil, or_false] at hu; rcases hu with rfl | rfl | rfl | rfl <;> first | rfl | assumption))) (by ((repeat (first | exact Find.head _ | apply Find.tail)); done)) (by (simp)) rfl ?_
      refine rj_val (wn0 rfl) rfl rfl (y_assign rfl) ?_
      refine rj_nil ?_
      refine hK10 _ _ _ ?_
      refine cj_env (Env.le_cons (t := 2) rfl (Env.le_cons (t := 3) rfl (Env.le_nil _))) ?_
      refine cj_ret ?_
      refine hret _ _ _ ?_
      apply ej_ret Try.results11 (.cons (rv_cells ⟨Try.isAgg26, Try.sizeOf26⟩ rfl (by ((repeat (first | exact Find.head _ | apply Find.tail)); done)) rfl rfl) (.cons (rv_tmp rfl) .nil)) _ [] (by (first | exact Hp.le_refl _ | assumption | exact Hp.le_trans ‹_› ‹_›)) rfl
      case hp => rw [readM_cut hcase (by (try simp at hc18); omega)]; exact ⟨_, rfl, zero_rep R', rfl⟩
      case hS => (repeat (first | exact Sub.refl _ | (apply Sub.pick; focus (repeat (first | exact Find.head _ | apply Find.tail))) | apply Sub.drop))
    · try simp only [decide_eq_true_eq, decide_eq_false_iff_not, Bool.not_eq_true', Bool.not_eq_false', Bool.true_eq_false, Bool.false_eq_true] at hc18
      refine cj_skip ?_
      refine hK7 _ _ _ ?_
      refine cj_seq (fun K11 hK11 => ?_)
      refine cj_region ?_
      first | refine rj_val (wn0 rfl) rfl rfl (y_loads_blk ⟨Try.isAgg26, Try.sizeOf26⟩ rfl (by ((repeat (first | exact Find.head _ | apply Find.tail)); done)) rfl rfl) ?_ | refine rj_val (wn0 rfl) rfl rfl (y_loads_slc ⟨Try.isAgg26, Try.sizeOf26⟩ rfl (by ((repeat (first | exact Find.head _ | apply Find.tail)); done)) rfl rfl (by (first | omega | (dsimp only; omega) | (simp; done) | (simp; omega)))) ?_
      refine rj_stores ⟨Try.isAgg26, Try.sizeOf26⟩ rfl (wn0 rfl) rfl rfl (by (first | (simp [Value.oneCell']; done) | (intro u hu; simp only [List.mem_cons, List.not_mem_nil, or_false] at hu; rcases hu with rfl | rfl | rfl | rfl <;> first | rfl | assumption))) (by ((repeat (first | exact Find.head _ | apply Find.tail)); done)) (by (simp)) rfl ?_
      refine rj_val (wn0 rfl) rfl rfl (y_assign rfl) ?_
      refine rj_nil ?_
      refine hK11 _ _ _ ?_
      refine cj_env (Env.le_cons (t := 2) rfl (Env.le_cons (t := 3) rfl (Env.le_nil _))) ?_
      refine cj_ret ?_
      refine hret _ _ _ ?_
      apply ej_ret Try.results11 (.cons (rv_cells ⟨Try.isAgg26, Try.sizeOf26⟩ rfl (by ((repeat (first | exact Find.head _ | apply Find.tail)); done)) rfl rfl) (.cons (rv_tmp rfl) .nil)) _ [] (by (first | exact Hp.le_refl _ | assumption | exact Hp.le_trans ‹_› ‹_›)) rfl
      case hp => rw [readM_full hcase (by (try simp at hc8); omega) (by (try simp at hc18); omega)]; exact ⟨_, rfl, hy, rfl⟩
      case hS => (repeat (first | exact Sub.refl _ | (apply Sub.pick; focus (repeat (first | exact Find.head _ | apply Find.tail))) | apply Sub.drop))
end V
end Go.Proofs.Ytcficaboohpmdaa
