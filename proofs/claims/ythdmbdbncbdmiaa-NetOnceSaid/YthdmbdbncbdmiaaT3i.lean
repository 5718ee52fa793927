/- The reference's bytes of a node. -/
import Derived.Test.YthdmbdbncbdmiaaT3h
set_option linter.unusedSimpArgs false
set_option linter.unusedVariables false
set_option maxRecDepth 100000
namespace Go.Proofs.Ythdmbdbncbdmiaa
open Go.RowKit
namespace V
set_option maxHeartbeats 4000000
theorem tmod_nat (m j : Nat) : ((m : Nat) : Int).tmod (j : Int) = ((m % j : Nat) : Int) := by rw [Int.tmod_eq_emod_of_nonneg (by omega)]; rfl
theorem tdiv_nat (m j : Nat) : ((m : Nat) : Int).tdiv (j : Int) = ((m / j : Nat) : Int) := by rw [Int.tdiv_eq_ediv_of_nonneg (by omega)]; rfl
theorem rnum_q {R : Hp} (n : Nat) (hn : n < 18446744073709551616) : QTri Try.prog 55 [.int .u64 (n : Int)] R [] (.string (str (numB n))) := by
  have hnl : (numB n).length ≤ 8 := numB_length 8 n (by omega)
  refine Tri.q ?_
  refine tri_of Try.func55 rfl Try.ntmps55 rfl (fun σ F Q hret hend hpan => ?_)
  try simp only [List.cons_append, List.nil_append]
  refine cj_env (Env.le_cons (t := 0) rfl (Env.le_nil _)) ?_
  refine cj_seq (fun K1 hK1 => ?_)
  refine cj_region ?_
  refine rj_val (wn0 rfl) rfl rfl (y_assign rfl) ?_
  refine rj_nil ?_
  refine hK1 _ _ _ ?_
  refine cj_seq (fun K2 hK2 => ?_)
  refine cj_region ?_
  refine rj_val (wn0 rfl) rfl rfl (y_assign rfl) ?_
  refine rj_nil ?_
  refine hK2 _ _ _ ?_
  refine cj_seq (fun K3 hK3 => ?_)
  refine cj_block ?_
  refine cj_env (E' := (fun (x : Nat × List UInt8) => [(0, .int .u64 (x.1 : Int)), (3, .string (str x.2))]) (n, [])) (Env.le_cons rfl (Env.le_cons rfl (Env.le_nil _))) ?_
  refine cj_sub (M := (fun (x : Nat × List UInt8) => F) (n, [])) (by (repeat (first | exact Sub.refl _ | (apply Sub.pick; focus (repeat (first | exact Find.head _ | apply Find.tail))) | apply Sub.drop | exact Sub.tailApp _ _))) ?_
  refine cj_loop (fun (x : Nat × List UInt8) => [(0, .int .u64 (x.1 : Int)), (3, .string (str x.2))]) (fun (x : Nat × List UInt8) => R) (fun (x : Nat × List UInt8) => F) (fun (x : Nat × List UInt8) => x.1 ≤ n ∧ numB x.1 ++ x.2 = numB n) (fun (x : Nat × List UInt8) => x.1) (n, []) (⟨Nat.le_refl _, by simp⟩) ?_
  rintro ⟨m, acc⟩ ⟨hm, he⟩
  try dsimp only
  dsimp only at hm he
  have hel := congrArg List.length he
  simp only [List.length_append] at hel
  refine cj_seq (fun K4 hK4 => ?_)
  refine cj_seq (fun K5 hK5 => ?_)
  refine cj_region ?_
  refine rj_val (wn0 rfl) rfl rfl (y_move rfl) ?_
  refine rj_val (wn0 rfl) rfl rfl (y_gtr rfl rfl) ?_
  refine rj_nil ?_
  refine hK5 _ _ _ ?_
  refine cj_cond rfl (fun hc5 => ?_) (fun hc5 => ?_)
  · try simp only [decide_eq_true_eq, decide_eq_false_iff_not, Bool.not_eq_true', Bool.not_eq_false', Bool.true_eq_false, Bool.false_eq_true] at hc5
    refine cj_skip ?_
    refine hK4 _ _ _ ?_
    refine cj_block ?_
    refine cj_seq (fun K7 hK7 => ?_)
    refine cj_region ?_
    refine rj_val (wn0 rfl) rfl rfl (y_move rfl) ?_
    refine rj_val (wn0 rfl) rfl rfl (y_rem rfl rfl (by (first | omega | (dsimp only; omega) | (simp; done) | (simp; omega)))) ?_
    refine rj_eq 7 rfl (congrArg (Value.int .u64) (tmod_nat m 256)) ?_
    first | refine rj_val (wn0 rfl) rfl rfl (y_conv_in Try.underlying27 Try.underlying5 rfl (by (simp only [IntKind.min, IntKind.max, IntKind.signed, IntKind.bits, Bool.false_eq_true, ite_false, ite_true]; omega))) ?_ | refine rj_val (wn0 rfl) rfl rfl (y_conv Try.underlying27 Try.underlying5 rfl) ?_
    refine rj_eq 8 rfl (v' := .int .u8 ((UInt8.ofNat (m % 256)).toNat : Int)) (by rw [ofNat_toNat' _ (by omega)]) ?_
    refine rj_buildSlice (sz := 1) (wn0 rfl) rfl Try.underlying86 Try.sizeOf5 Try.zeroValue5 rfl rfl rfl (by decide) (by decide) (fun b9 => ?_)
    refine rj_val (wn0 rfl) rfl rfl ((y_str_slc (bs := [UInt8.ofNat (m % 256)]) Try.underlying86 Try.underlying5 Try.underlying9 rfl (by ((repeat (first | exact Find.head _ | apply Find.tail)); done)))) ?_
    refine rj_val (wn0 rfl) rfl rfl (y_move rfl) ?_
    have hs1 : [UInt8.ofNat (m % 256)].length + acc.length ≤ 9223372036854775807 := by simp; omega
    refine rj_val (wn0 rfl) rfl rfl (y_sadd rfl rfl (by (first | omega | (dsimp only; omega) | (simp; done) | (simp; omega)))) ?_
    refine rj_val (wn0 rfl) rfl rfl (y_assign rfl) ?_
    refine rj_nil ?_
    refine hK7 _ _ _ ?_
    refine cj_env (Env.le_cons (t := 0) rfl (Env.le_cons (t := 3) rfl (Env.le_nil _))) ?_
    refine cj_region ?_
    refine rj_val (wn0 rfl) rfl rfl (y_move rfl) ?_
    refine rj_val (wn0 rfl) rfl rfl (y_quo rfl rfl (by (first | omega | (dsimp only; omega) | (simp; done) | (simp; omega)))) ?_
    refine rj_eq 14 rfl (v' := .int .u64 ((m / 256 : Nat) : Int)) (by congr 1; rw [show ((256 : Int)) = ((256 : Nat) : Int) from rfl, tdiv_nat, wrap_u64_in ⟨by omega, by omega⟩]) ?_
    refine rj_val (wn0 rfl) rfl rfl (y_assign rfl) ?_
    refine rj_nil ?_
    refine ej_on (q' := roundK _ _ _ _ _ _ _) rfl ?_
    refine ej_round ((m / 256, [UInt8.ofNat (m % 256)] ++ acc)) (⟨by dsimp only; omega, by dsimp only; rw [← he, numB_pos (n := m) (by (try simp at hc5); omega)]; simp⟩) (by dsimp only; (try simp at hc5); omega) (Env.le_cons rfl (Env.le_cons rfl (Env.le_nil _))) rfl (by (repeat (first | exact Sub.refl _ | (apply Sub.pick; focus (repeat (first | exact Find.head _ | apply Find.tail))) | apply Sub.drop | exact Sub.tailApp _ _)))
  · try simp only [decide_eq_true_eq, decide_eq_false_iff_not, Bool.not_eq_true', Bool.not_eq_false', Bool.true_eq_false, Bool.false_eq_true] at hc5
    refine cj_exit ?_
    refine hK3 _ _ _ ?_
    refine cj_env (Env.le_cons (t := 3) rfl (Env.le_nil _)) ?_
    refine cj_seq (fun K8 hK8 => ?_)
    refine cj_region ?_
    refine rj_val (wn0 rfl) rfl rfl (y_move rfl) ?_
    refine rj_val (wn0 rfl) rfl rfl (y_assign rfl) ?_
    refine rj_nil ?_
    refine hK8 _ _ _ ?_
    refine cj_ret ?_
    refine hret _ _ _ ?_
    apply ej_ret Try.results55 (.cons (rv_tmp rfl) .nil) _ [] (by (first | exact Hp.le_refl _ | assumption | exact Hp.le_trans ‹_› ‹_›)) rfl
    case hp =>
      refine ⟨?_, rfl, rfl⟩; obtain rfl : m = 0 := by (try simp at hc5); omega
      rw [numB_zero, List.nil_append] at he; rw [← he]; rfl
    case hS => (repeat (first | exact Sub.refl _ | (apply Sub.pick; focus (repeat (first | exact Find.head _ | apply Find.tail))) | apply Sub.drop | exact Sub.tailApp _ _))
theorem rsz_q {R : Hp} (n : Nat) (hn : n ≤ big) : QTri Try.prog 56 [.int .i64 (n : Int)] R [] (.string (str (sizeB n))) := by
  unfold big at hn
  have hsl := sizeB_len 5 n (by simp; omega)
  refine Tri.q ?_
  refine tri_of Try.func56 rfl Try.ntmps56 rfl (fun σ F Q hret hend hpan => ?_)
  try simp only [List.cons_append, List.nil_append]
  refine cj_env (Env.le_cons (t := 0) rfl (Env.le_nil _)) ?_
  refine cj_seq (fun K1 hK1 => ?_)
  refine cj_region ?_
  refine rj_val (wn0 rfl) rfl rfl (y_assign rfl) ?_
  refine rj_nil ?_
  refine hK1 _ _ _ ?_
  refine cj_seq (fun K2 hK2 => ?_)
  refine cj_region ?_
  refine rj_val (wn0 rfl) rfl rfl (y_assign rfl) ?_
  refine rj_nil ?_
  refine hK2 _ _ _ ?_
  refine cj_seq (fun K3 hK3 => ?_)
  refine cj_block ?_
  refine cj_env (E' := (fun (x : Nat × List UInt8) => [(0, .int .i64 (x.1 : Int)), (3, .string (str x.2))]) (n, [])) (Env.le_cons rfl (Env.le_cons rfl (Env.le_nil _))) ?_
  refine cj_sub (M := (fun (x : Nat × List UInt8) => F) (n, [])) (by (repeat (first | exact Sub.refl _ | (apply Sub.pick; focus (repeat (first | exact Find.head _ | apply Find.tail))) | apply Sub.drop | exact Sub.tailApp _ _))) ?_
  refine cj_loop (fun (x : Nat × List UInt8) => [(0, .int .i64 (x.1 : Int)), (3, .string (str x.2))]) (fun (x : Nat × List UInt8) => R) (fun (x : Nat × List UInt8) => F) (fun (x : Nat × List UInt8) => x.1 ≤ n ∧ x.2 ++ sizeB x.1 = sizeB n) (fun (x : Nat × List UInt8) => x.1) (n, []) (⟨Nat.le_refl _, by simp⟩) ?_
  rintro ⟨m, acc⟩ ⟨hm, he⟩
  try dsimp only
  dsimp only at hm he
  have hel := congrArg List.length he
  simp only [List.length_append] at hel
  refine cj_seq (fun K4 hK4 => ?_)
  refine cj_seq (fun K5 hK5 => ?_)
  refine cj_region ?_
  refine rj_val (wn0 rfl) rfl rfl (y_move rfl) ?_
  refine rj_val (wn0 rfl) rfl rfl (y_geq rfl rfl) ?_
  refine rj_nil ?_
  refine hK5 _ _ _ ?_
  refine cj_cond rfl (fun hc5 => ?_) (fun hc5 => ?_)
  · try simp only [decide_eq_true_eq, decide_eq_false_iff_not, Bool.not_eq_true', Bool.not_eq_false', Bool.true_eq_false, Bool.false_eq_true] at hc5
    refine cj_skip ?_
    refine hK4 _ _ _ ?_
    refine cj_block ?_
    refine cj_seq (fun K7 hK7 => ?_)
    refine cj_region ?_
    refine rj_val (wn0 rfl) rfl rfl (y_move rfl) ?_
    refine rj_val (wn0 rfl) rfl rfl (y_move rfl) ?_
    refine rj_val (wn0 rfl) rfl rfl (y_rem rfl rfl (by (first | omega | (dsimp only; omega) | (simp; done) | (simp; omega)))) ?_
    refine rj_eq 8 rfl (congrArg (Value.int .i64) (tmod_nat m 128)) ?_
    first | refine rj_val (wn0 rfl) rfl rfl (y_add64 rfl rfl (by (first | omega | (dsimp only; omega) | (simp; done) | (simp; omega)))) ?_ | refine rj_val (wn0 rfl) rfl rfl (y_add rfl rfl) ?_
    first | refine rj_val (wn0 rfl) rfl rfl (y_conv_in Try.underlying3 Try.underlying5 rfl (by (simp only [IntKind.min, IntKind.max, IntKind.signed, IntKind.bits, Bool.false_eq_true, ite_false, ite_true]; omega))) ?_ | refine rj_val (wn0 rfl) rfl rfl (y_conv Try.underlying3 Try.underlying5 rfl) ?_
    refine rj_eq 10 rfl (v' := .int .u8 ((UInt8.ofNat (m % 128 + 128)).toNat : Int)) (by rw [ofNat_toNat' _ (by omega)]; rfl) ?_
    refine rj_buildSlice (sz := 1) (wn0 rfl) rfl Try.underlying86 Try.sizeOf5 Try.zeroValue5 rfl rfl rfl (by decide) (by decide) (fun b11 => ?_)
    refine rj_val (wn0 rfl) rfl rfl ((y_str_slc (bs := [UInt8.ofNat (m % 128 + 128)]) Try.underlying86 Try.underlying5 Try.underlying9 rfl (by ((repeat (first | exact Find.head _ | apply Find.tail)); done)))) ?_
    have hs1 : acc.length + [UInt8.ofNat (m % 128 + 128)].length ≤ 9223372036854775807 := by simp; omega
    refine rj_val (wn0 rfl) rfl rfl (y_sadd rfl rfl (by (first | omega | (dsimp only; omega) | (simp; done) | (simp; omega)))) ?_
    refine rj_val (wn0 rfl) rfl rfl (y_assign rfl) ?_
    refine rj_nil ?_
    refine hK7 _ _ _ ?_
    refine cj_env (Env.le_cons (t := 0) rfl (Env.le_cons (t := 3) rfl (Env.le_nil _))) ?_
    refine cj_region ?_
    refine rj_val (wn0 rfl) rfl rfl (y_move rfl) ?_
    refine rj_val (wn0 rfl) rfl rfl (y_quo rfl rfl (by (first | omega | (dsimp only; omega) | (simp; done) | (simp; omega)))) ?_
    refine rj_eq 15 rfl (v' := .int .i64 ((m / 128 : Nat) : Int)) (by congr 1; rw [show ((128 : Int)) = ((128 : Nat) : Int) from rfl, tdiv_nat, wrap_i64_in ⟨by omega, by omega⟩]) ?_
    refine rj_val (wn0 rfl) rfl rfl (y_assign rfl) ?_
    refine rj_nil ?_
    refine ej_on (q' := roundK _ _ _ _ _ _ _) rfl ?_
    refine ej_round ((m / 128, acc ++ [UInt8.ofNat (m % 128 + 128)])) (⟨by dsimp only; omega, by dsimp only; rw [← he, sizeB_big (n := m) (by (try simp at hc5); omega)]; simp⟩) (by dsimp only; (try simp at hc5); omega) (Env.le_cons rfl (Env.le_cons rfl (Env.le_nil _))) rfl (by (repeat (first | exact Sub.refl _ | (apply Sub.pick; focus (repeat (first | exact Find.head _ | apply Find.tail))) | apply Sub.drop | exact Sub.tailApp _ _)))
  · try simp only [decide_eq_true_eq, decide_eq_false_iff_not, Bool.not_eq_true', Bool.not_eq_false', Bool.true_eq_false, Bool.false_eq_true] at hc5
    refine cj_exit ?_
    refine hK3 _ _ _ ?_
    refine cj_seq (fun K8 hK8 => ?_)
    refine cj_region ?_
    refine rj_val (wn0 rfl) rfl rfl (y_move rfl) ?_
    refine rj_val (wn0 rfl) rfl rfl (y_move rfl) ?_
    first | refine rj_val (wn0 rfl) rfl rfl (y_conv_in Try.underlying3 Try.underlying5 rfl (by (simp only [IntKind.min, IntKind.max, IntKind.signed, IntKind.bits, Bool.false_eq_true, ite_false, ite_true]; omega))) ?_ | refine rj_val (wn0 rfl) rfl rfl (y_conv Try.underlying3 Try.underlying5 rfl) ?_
    refine rj_eq 18 rfl (v' := .int .u8 ((UInt8.ofNat m).toNat : Int)) (by rw [ofNat_toNat' _ (by (try simp at hc5); omega)]) ?_
    refine rj_buildSlice (sz := 1) (wn0 rfl) rfl Try.underlying86 Try.sizeOf5 Try.zeroValue5 rfl rfl rfl (by decide) (by decide) (fun b19 => ?_)
    refine rj_val (wn0 rfl) rfl rfl ((y_str_slc (bs := [UInt8.ofNat m]) Try.underlying86 Try.underlying5 Try.underlying9 rfl (by ((repeat (first | exact Find.head _ | apply Find.tail)); done)))) ?_
    have hs1 : acc.length + [UInt8.ofNat m].length ≤ 9223372036854775807 := by simp; omega
    refine rj_val (wn0 rfl) rfl rfl (y_sadd rfl rfl (by (first | omega | (dsimp only; omega) | (simp; done) | (simp; omega)))) ?_
    refine rj_val (wn0 rfl) rfl rfl (y_assign rfl) ?_
    refine rj_nil ?_
    refine hK8 _ _ _ ?_
    refine cj_env (Env.le_cons (t := 2) rfl (Env.le_nil _)) ?_
    refine cj_ret ?_
    refine hret _ _ _ ?_
    apply ej_ret Try.results56 (.cons (rv_tmp rfl) .nil) _ [] (by (first | exact Hp.le_refl _ | assumption | exact Hp.le_trans ‹_› ‹_›)) rfl
    case hp => refine ⟨?_, rfl, rfl⟩; rw [← he, sizeB_small (n := m) (by (try simp at hc5); omega)]; rfl
    case hS => (repeat (first | exact Sub.refl _ | (apply Sub.pick; focus (repeat (first | exact Find.head _ | apply Find.tail))) | apply Sub.drop | exact Sub.tailApp _ _))
theorem wrs_le {l : List Nd} {i : Nat} {x : Nd} (hx : l[i]? = some x) : (wrs (l.take i)).length + (wr x).length ≤ (wrs l).length := by
  have key : ∀ (a b : List Nd), wrs (a ++ b) = wrs a ++ wrs b := by
    intro a b
    induction a with
    | nil => rfl
    | cons y a ih => rw [List.cons_append, wrs, ih, wrs, List.append_assoc]
  have h1 := key (l.take (i + 1)) (l.drop (i + 1))
  rw [List.take_append_drop] at h1
  rw [h1, wrs_take hx]
  simp only [List.length_append]; omega
theorem rbytes_q (N : Nat) : ∀ (x : Nd) (cx : List Value) {R : Hp}, SizeOf.sizeOf x ≤ N → RepN R x cx → OkN x → (wr x).length ≤ big → QTri Try.prog 44 [.agg ⟨cx⟩] R [] (.string (str (wr x))) := by
  induction N using Nat.strongRecOn with
  | _ N ih =>
  intro x cx R hN hx hok hb
  obtain ⟨k, n, s, l, q, cap, rfl, rfl, hs, hl⟩ := hx.inv
  have hlb : l.length ≤ big := hl.choose_spec.1
  obtain ⟨hn, hkids⟩ : n < 18446744073709551616 ∧ ∀ y ∈ l, OkN y := by cases hok with | mk h1 h2 => exact ⟨h1, h2⟩
  have hnl : (numB n).length ≤ 8 := numB_length 8 n (by omega)
  have hz1 := sizeB_len 5 (numB n).length (by omega)
  have hs0 := hs
  have hl0 := hlb
  have hb0 := hb
  unfold big at hs hlb hb
  have hz2 := sizeB_len 5 s.length (by simp; omega)
  have hz3 := sizeB_len 5 l.length (by simp; omega)
  refine Tri.q ?_
  refine tri_of Try.func44 rfl Try.ntmps44 rfl (fun σ F Q hret hend hpan => ?_)
  try simp only [List.cons_append, List.nil_append]
  refine cj_env (Env.le_cons (t := 0) rfl (Env.le_nil _)) ?_
  refine cj_seq (fun K1 hK1 => ?_)
  refine cj_region ?_
  refine rj_box (wn0 rfl) rfl rfl rfl (fun b1 => ?_)
  refine rj_val (wn0 rfl) rfl rfl (y_assign rfl) ?_
  refine rj_nil ?_
  refine hK1 _ _ _ ?_
  refine cj_seq (fun K2 hK2 => ?_)
  refine cj_seq (fun K3 hK3 => ?_)
  refine cj_region ?_
  refine rj_val (wn0 rfl) rfl rfl (y_fieldAddr (k := 0) Try.underlying72 rfl (n := 1) (by decide) Try.sizeOf3 rfl) ?_
  first | refine rj_val (wn0 rfl) rfl rfl (y_load ⟨Try.isAgg3, Try.sizeOf3⟩ rfl (by ((repeat (first | exact Find.head _ | apply Find.tail)); done)) rfl) ?_ | refine rj_val (wn0 rfl) rfl rfl (y_load_slc ⟨Try.isAgg3, Try.sizeOf3⟩ rfl (by ((repeat (first | exact Find.head _ | apply Find.tail)); done)) rfl) ?_
  refine rj_nil ?_
  refine hK3 _ _ _ ?_
  refine cj_env (Env.le_cons (t := 1) rfl (Env.le_cons (t := 7) rfl (Env.le_nil _))) ?_
  refine cj_block ?_
  refine cj_seq (fun K4 hK4 => ?_)
  refine cj_region ?_
  refine rj_val (wn0 rfl) rfl rfl (y_eql rfl rfl) ?_
  refine rj_val (wn0 rfl) rfl rfl (y_assign rfl) ?_
  refine rj_nil ?_
  refine hK4 _ _ _ ?_
  refine cj_cond rfl (fun hc8 => ?_) (fun hc8 => ?_)
  · (try simp only [decide_eq_true_eq, decide_eq_false_iff_not, Bool.not_eq_true', Bool.not_eq_false', Bool.true_eq_false, Bool.false_eq_true] at hc8); subst hc8
    refine cj_seq (fun K6 hK6 => ?_)
    refine cj_region ?_
    refine rj_val (wn0 rfl) rfl rfl (y_fieldAddr (k := 1) Try.underlying72 rfl (n := 1) (by decide) Try.sizeOf27 rfl) ?_
    first | refine rj_val (wn0 rfl) rfl rfl (y_load ⟨Try.isAgg27, Try.sizeOf27⟩ rfl (by ((repeat (first | exact Find.head _ | apply Find.tail)); done)) rfl) ?_ | refine rj_val (wn0 rfl) rfl rfl (y_load_slc ⟨Try.isAgg27, Try.sizeOf27⟩ rfl (by ((repeat (first | exact Find.head _ | apply Find.tail)); done)) rfl) ?_
    refine rj_val (wn0 rfl) rfl rfl (y_call Try.call55 rfl (rnum_q n hn) (by (repeat (first | exact Split.nil _ | (apply Split.cons; focus (repeat (first | exact Find.head _ | apply Find.tail))))))) ?_
    refine rj_val (wn0 rfl) rfl rfl (y_assign rfl) ?_
    refine rj_nil ?_
    refine hK6 _ _ _ ?_
    refine cj_env (Env.le_cons (t := 3) rfl (Env.le_nil _)) ?_
    refine cj_seq (fun K7 hK7 => ?_)
    refine cj_region ?_
    refine rj_val (wn0 rfl) rfl rfl (y_move rfl) ?_
    refine rj_val (wn0 rfl) rfl rfl (y_slen Try.underlying9 rfl) ?_
    refine rj_val (wn0 rfl) rfl rfl (y_call Try.call56 rfl (rsz_q (numB n).length (by unfold big; omega)) (by (repeat (first | exact Split.nil _ | (apply Split.cons; focus (repeat (first | exact Find.head _ | apply Find.tail))))))) ?_
    have hq1 : [(110 : UInt8)].length + (sizeB (numB n).length).length ≤ 9223372036854775807 := by simp; omega
    have hq2 : ([(110 : UInt8)] ++ sizeB (numB n).length).length + (numB n).length ≤ 9223372036854775807 := by simp; omega
    refine rj_val (wn0 rfl) rfl rfl (y_sadd rfl rfl (by (first | omega | (dsimp only; omega) | (simp; done) | (simp; omega)))) ?_
    refine rj_val (wn0 rfl) rfl rfl (y_move rfl) ?_
    refine rj_val (wn0 rfl) rfl rfl (y_sadd rfl rfl (by (first | omega | (dsimp only; omega) | (simp; done) | (simp; omega)))) ?_
    refine rj_val (wn0 rfl) rfl rfl (y_assign rfl) ?_
    refine rj_nil ?_
    refine hK7 _ _ _ ?_
    refine cj_env (Env.le_cons (t := 2) rfl (Env.le_nil _)) ?_
    refine cj_ret ?_
    refine hret _ _ _ ?_
    apply ej_ret Try.results44 (.cons (rv_tmp rfl) .nil) _ [] (by (first | exact Hp.le_refl _ | assumption | exact Hp.le_trans ‹_› ‹_›)) rfl
    case hp => refine ⟨?_, rfl, rfl⟩; rw [wr, if_pos rfl]; rfl
    case hS => (repeat (first | exact Sub.refl _ | (apply Sub.pick; focus (repeat (first | exact Find.head _ | apply Find.tail))) | apply Sub.drop | exact Sub.tailApp _ _))
  · try simp only [decide_eq_true_eq, decide_eq_false_iff_not, Bool.not_eq_true', Bool.not_eq_false', Bool.true_eq_false, Bool.false_eq_true] at hc8
    refine cj_seq (fun K8 hK8 => ?_)
    refine cj_region ?_
    refine rj_val (wn0 rfl) rfl rfl (y_eql rfl rfl) ?_
    refine rj_val (wn0 rfl) rfl rfl (y_assign rfl) ?_
    refine rj_nil ?_
    refine hK8 _ _ _ ?_
    refine cj_env (Env.le_cons (t := 1) rfl (Env.le_cons (t := 19) rfl (Env.le_nil _))) ?_
    refine cj_cond rfl (fun hc19 => ?_) (fun hc19 => ?_)
    · (try simp only [decide_eq_true_eq, decide_eq_false_iff_not, Bool.not_eq_true', Bool.not_eq_false', Bool.true_eq_false, Bool.false_eq_true] at hc19); subst hc19
      refine cj_seq (fun K10 hK10 => ?_)
      refine cj_draw (by kernel_rfl) (by kernel_rfl) ?_
      have hq1 : [(115 : UInt8)].length + (sizeB s.length).length ≤ 9223372036854775807 := by simp; omega
      have hq2 : ([(115 : UInt8)] ++ sizeB s.length).length + s.length ≤ 9223372036854775807 := by simp; omega
      refine qj_val (wn0 rfl) rfl rfl (y_fieldAddr (k := 2) Try.underlying72 rfl (n := 1) (by decide) Try.sizeOf9 rfl) ?_
      first | refine qj_val (wn0 rfl) rfl rfl (y_load ⟨Try.isAgg9, Try.sizeOf9⟩ rfl (by ((repeat (first | exact Find.head _ | apply Find.tail)); done)) rfl) ?_ | refine qj_val (wn0 rfl) rfl rfl (y_load_slc ⟨Try.isAgg9, Try.sizeOf9⟩ rfl (by ((repeat (first | exact Find.head _ | apply Find.tail)); done)) rfl) ?_
      refine qj_val (wn0 rfl) rfl rfl (y_slen Try.underlying9 rfl) ?_
      refine qj_val (wn0 rfl) rfl rfl (y_call Try.call56 rfl (rsz_q s.length hs0) (by (repeat (first | exact Split.nil _ | (apply Split.cons; focus (repeat (first | exact Find.head _ | apply Find.tail))))))) ?_
      refine qj_val (wn0 rfl) rfl rfl (y_sadd rfl rfl (by (first | omega | (dsimp only; omega) | (simp; done) | (simp; omega)))) ?_
      refine qj_val (wn0 rfl) rfl rfl (y_fieldAddr (k := 2) Try.underlying72 rfl (n := 1) (by decide) Try.sizeOf9 rfl) ?_
      first | refine qj_val (wn0 rfl) rfl rfl (y_load ⟨Try.isAgg9, Try.sizeOf9⟩ rfl (by ((repeat (first | exact Find.head _ | apply Find.tail)); done)) rfl) ?_ | refine qj_val (wn0 rfl) rfl rfl (y_load_slc ⟨Try.isAgg9, Try.sizeOf9⟩ rfl (by ((repeat (first | exact Find.head _ | apply Find.tail)); done)) rfl) ?_
      refine qj_val (wn0 rfl) rfl rfl (y_sadd rfl rfl (by (first | omega | (dsimp only; omega) | (simp; done) | (simp; omega)))) ?_
      refine qj_val (wn0 rfl) rfl rfl (y_assign rfl) ?_
      refine qj_nil ?_
      refine hK10 _ _ _ ?_
      refine cj_env (Env.le_cons (t := 2) rfl (Env.le_nil _)) ?_
      refine cj_ret ?_
      refine hret _ _ _ ?_
      apply ej_ret Try.results44 (.cons (rv_tmp rfl) .nil) _ [] (by (first | exact Hp.le_refl _ | assumption | exact Hp.le_trans ‹_› ‹_›)) rfl
      case hp => refine ⟨?_, rfl, rfl⟩; rw [wr, if_neg (by decide), if_pos rfl]; rfl
      case hS => (repeat (first | exact Sub.refl _ | (apply Sub.pick; focus (repeat (first | exact Find.head _ | apply Find.tail))) | apply Sub.drop | exact Sub.tailApp _ _))
    · try simp only [decide_eq_true_eq, decide_eq_false_iff_not, Bool.not_eq_true', Bool.not_eq_false', Bool.true_eq_false, Bool.false_eq_true] at hc19
      refine cj_skip ?_
      refine hK2 _ _ _ ?_
      refine cj_seq (fun K11 hK11 => ?_)
      refine cj_region ?_
      refine rj_val (wn0 rfl) rfl rfl (y_fieldAddr (k := 3) Try.underlying72 rfl (n := 1) (by decide) Try.sizeOf70 rfl) ?_
      first | refine rj_val (wn0 rfl) rfl rfl (y_load ⟨Try.isAgg70, Try.sizeOf70⟩ rfl (by ((repeat (first | exact Find.head _ | apply Find.tail)); done)) rfl) ?_ | refine rj_val (wn0 rfl) rfl rfl (y_load_slc ⟨Try.isAgg70, Try.sizeOf70⟩ rfl (by ((repeat (first | exact Find.head _ | apply Find.tail)); done)) rfl) ?_
      first | refine rj_val (wn0 rfl) rfl rfl (y_len_sl Try.underlying70 rfl) ?_ | refine rj_val (wn0 rfl) rfl rfl (y_len_slc Try.underlying70 rfl (by ((repeat (first | exact Find.head _ | apply Find.tail)); done))) ?_
      refine rj_val (wn0 rfl) rfl rfl (y_call Try.call56 rfl (rsz_q l.length hl0) (by (repeat (first | exact Split.nil _ | (apply Split.cons; focus (repeat (first | exact Find.head _ | apply Find.tail))))))) ?_
      have hq1 : [(108 : UInt8)].length + (sizeB l.length).length ≤ 9223372036854775807 := by simp; omega
      have hwr : wr (.mk k n s l) = ([108] ++ sizeB l.length) ++ wrs l := by rw [wr, if_neg (by simpa using hc8), if_neg (by simpa using hc19)]; simp
      refine rj_val (wn0 rfl) rfl rfl (y_sadd rfl rfl (by (first | omega | (dsimp only; omega) | (simp; done) | (simp; omega)))) ?_
      refine rj_val (wn0 rfl) rfl rfl (y_assign rfl) ?_
      refine rj_nil ?_
      refine hK11 _ _ _ ?_
      refine cj_env (Env.le_cons (t := 1) rfl (Env.le_cons (t := 4) rfl (Env.le_nil _))) ?_
      refine cj_seq (fun K12 hK12 => ?_)
      refine cj_seq (fun K13 hK13 => ?_)
      refine cj_region ?_
      refine rj_val (wn0 rfl) rfl rfl (y_assign rfl) ?_
      refine rj_nil ?_
      refine hK13 _ _ _ ?_
      refine cj_block ?_
      refine cj_eq 4 rfl (v' := .string (str (([108] ++ sizeB l.length) ++ wrs (l.take 0)))) (by simp [wrs]) ?_
      refine cj_env (E' := (fun (x : Nat) => [(1, .pointer (some ⟨b1, 0, none⟩)), (4, .string (str (([108] ++ sizeB l.length) ++ wrs (l.take x)))), (5, .int .i64 (x : Int))]) 0) (Env.le_cons rfl (Env.le_cons rfl (Env.le_cons rfl (Env.le_nil _)))) ?_
      refine cj_sub (M := (fun (x : Nat) => blk b1 [.int .i64 k, .int .u64 ((n : Nat) : Int), .string (str s), .slice q l.length cap] 72 :: F) 0) (by (repeat (first | exact Sub.refl _ | (apply Sub.pick; focus (repeat (first | exact Find.head _ | apply Find.tail))) | apply Sub.drop | exact Sub.tailApp _ _))) ?_
      refine cj_loop (fun (x : Nat) => [(1, .pointer (some ⟨b1, 0, none⟩)), (4, .string (str (([108] ++ sizeB l.length) ++ wrs (l.take x)))), (5, .int .i64 (x : Int))]) (fun (x : Nat) => R) (fun (x : Nat) => blk b1 [.int .i64 k, .int .u64 ((n : Nat) : Int), .string (str s), .slice q l.length cap] 72 :: F) (fun (x : Nat) => x ≤ l.length) (fun (x : Nat) => l.length - x) 0 (by simp) ?_
      rintro i hI9
      try dsimp only
      refine cj_seq (fun K14 hK14 => ?_)
      refine cj_seq (fun K15 hK15 => ?_)
      refine cj_region ?_
      refine rj_val (wn0 rfl) rfl rfl (y_move rfl) ?_
      refine rj_val (wn0 rfl) rfl rfl (y_fieldAddr (k := 3) Try.underlying72 rfl (n := 1) (by decide) Try.sizeOf70 rfl) ?_
      first | refine rj_val (wn0 rfl) rfl rfl (y_load ⟨Try.isAgg70, Try.sizeOf70⟩ rfl (by ((repeat (first | exact Find.head _ | apply Find.tail)); done)) rfl) ?_ | refine rj_val (wn0 rfl) rfl rfl (y_load_slc ⟨Try.isAgg70, Try.sizeOf70⟩ rfl (by ((repeat (first | exact Find.head _ | apply Find.tail)); done)) rfl) ?_
      first | refine rj_val (wn0 rfl) rfl rfl (y_len_sl Try.underlying70 rfl) ?_ | refine rj_val (wn0 rfl) rfl rfl (y_len_slc Try.underlying70 rfl (by ((repeat (first | exact Find.head _ | apply Find.tail)); done))) ?_
      refine rj_val (wn0 rfl) rfl rfl (y_lss rfl rfl) ?_
      refine rj_nil ?_
      refine hK15 _ _ _ ?_
      refine cj_env (Env.le_cons (t := 1) rfl (Env.le_cons (t := 4) rfl (Env.le_cons (t := 5) rfl (Env.le_cons (t := 38) rfl (Env.le_nil _))))) ?_
      refine cj_cond rfl (fun hc38 => ?_) (fun hc38 => ?_)
      · try simp only [decide_eq_true_eq, decide_eq_false_iff_not, Bool.not_eq_true', Bool.not_eq_false', Bool.true_eq_false, Bool.false_eq_true] at hc38
        refine cj_skip ?_
        refine hK14 _ _ _ ?_
        refine cj_seq (fun K17 hK17 => ?_)
        refine cj_block ?_
        refine cj_region ?_
        obtain ⟨x1, hx1⟩ : ∃ x, l[i]? = some x := ⟨l[i]'(by omega), by simp⟩
        obtain ⟨bb, off, cs, rfl, hc4, hrep, hcell⟩ := hl.at hx1
        have hm1 := List.mem_of_getElem? hx1
        have hle := wrs_le hx1
        rw [hwr] at hb
        simp only [List.length_append] at hb
        have hq3 : (([(108 : UInt8)] ++ sizeB l.length) ++ wrs (l.take i)).length + (wr x1).length ≤ 9223372036854775807 := by simp only [List.length_append]; omega
        refine rj_val (wn0 rfl) rfl rfl (y_move rfl) ?_
        refine rj_val (wn0 rfl) rfl rfl (y_fieldAddr (k := 3) Try.underlying72 rfl (n := 1) (by decide) Try.sizeOf70 rfl) ?_
        first | refine rj_val (wn0 rfl) rfl rfl (y_load ⟨Try.isAgg70, Try.sizeOf70⟩ rfl (by ((repeat (first | exact Find.head _ | apply Find.tail)); done)) rfl) ?_ | refine rj_val (wn0 rfl) rfl rfl (y_load_slc ⟨Try.isAgg70, Try.sizeOf70⟩ rfl (by ((repeat (first | exact Find.head _ | apply Find.tail)); done)) rfl) ?_
        refine rj_val (wn0 rfl) rfl rfl (y_move rfl) ?_
        first | refine rj_val (wn0 rfl) rfl rfl (y_indexAddr Try.underlying70 Try.sizeOf72 rfl rfl (by (first | omega | (dsimp only; omega) | (simp; done) | (simp; omega)))) ?_ | refine rj_val (wn0 rfl) rfl rfl (y_index_slc Try.underlying70 Try.sizeOf72 rfl rfl (by ((repeat (first | exact Find.head _ | apply Find.tail)); done)) (by (first | omega | (dsimp only; omega) | (simp; done) | (simp; omega)))) ?_
        refine rj_val (wn0 rfl) rfl rfl ((y_loads_ro ⟨Try.isAgg72, Try.sizeOf72⟩ hc4 rfl (fun j u hj => by simpa using hcell j u hj))) ?_
        refine rj_val (wn0 rfl) rfl rfl (y_call Try.call44 rfl (ih (SizeOf.sizeOf x1) (by have := List.sizeOf_lt_of_mem hm1; simp at hN; omega) x1 cs (Nat.le_refl _) hrep (hkids _ hm1) (by unfold big; omega)) (by (repeat (first | exact Split.nil _ | (apply Split.cons; focus (repeat (first | exact Find.head _ | apply Find.tail))))))) ?_
        refine rj_val (wn0 rfl) rfl rfl (y_sadd rfl rfl (by (first | omega | (dsimp only; omega) | (simp; done) | (simp; omega)))) ?_
        refine rj_eq 48 rfl (v' := .string (str (([108] ++ sizeB l.length) ++ wrs (l.take (i + 1))))) (by rw [wrs_take hx1, List.append_assoc]) ?_
        refine rj_val (wn0 rfl) rfl rfl (y_assign rfl) ?_
        refine rj_nil ?_
        refine hK17 _ _ _ ?_
        refine cj_env (Env.le_cons (t := 1) rfl (Env.le_cons (t := 4) rfl (Env.le_cons (t := 5) rfl (Env.le_nil _)))) ?_
        refine cj_region ?_
        refine rj_val (wn0 rfl) rfl rfl (y_move rfl) ?_
        first | refine rj_val (wn0 rfl) rfl rfl (y_add64 rfl rfl (by (first | omega | (dsimp only; omega) | (simp; done) | (simp; omega)))) ?_ | refine rj_val (wn0 rfl) rfl rfl (y_add rfl rfl) ?_
        refine rj_val (wn0 rfl) rfl rfl (y_assign rfl) ?_
        refine rj_nil ?_
        refine ej_on (q' := roundK _ _ _ _ _ _ _) rfl ?_
        refine ej_round (i + 1) (by omega) (by omega) (Env.le_cons rfl (Env.le_cons rfl (Env.le_cons rfl (Env.le_nil _)))) rfl (by (repeat (first | exact Sub.refl _ | (apply Sub.pick; focus (repeat (first | exact Find.head _ | apply Find.tail))) | apply Sub.drop | exact Sub.tailApp _ _)))
      · try simp only [decide_eq_true_eq, decide_eq_false_iff_not, Bool.not_eq_true', Bool.not_eq_false', Bool.true_eq_false, Bool.false_eq_true] at hc38
        refine cj_exit ?_
        refine hK12 _ _ _ ?_
        refine cj_env (Env.le_cons (t := 4) rfl (Env.le_nil _)) ?_
        refine cj_seq (fun K18 hK18 => ?_)
        refine cj_region ?_
        rw [List.take_of_length_le (by omega), ← hwr]
        refine rj_val (wn0 rfl) rfl rfl (y_move rfl) ?_
        refine rj_val (wn0 rfl) rfl rfl (y_assign rfl) ?_
        refine rj_nil ?_
        refine hK18 _ _ _ ?_
        refine cj_ret ?_
        refine hret _ _ _ ?_
        apply ej_ret Try.results44 (.cons (rv_tmp rfl) .nil) _ [] (by (first | exact Hp.le_refl _ | assumption | exact Hp.le_trans ‹_› ‹_›)) rfl
        case hp => exact ⟨rfl, rfl, rfl⟩
        case hS => (repeat (first | exact Sub.refl _ | (apply Sub.pick; focus (repeat (first | exact Find.head _ | apply Find.tail))) | apply Sub.drop | exact Sub.tailApp _ _))
theorem rwrite_q {R : Hp} (x : Nd) (cx : List Value) (hx : RepN R x cx) (hok : OkN x) (hd : deepN x ≤ big) (hb : (wr x).length ≤ big) : QTri Try.prog 34 [.agg ⟨cx⟩] R [] (.tuple #[.string (str (writeM x).1), .bool (writeM x).2]) := by
  obtain ⟨k, n, s, l, q, cap, rfl, rfl, hs, hl⟩ := hx.inv
  obtain ⟨x, hxe⟩ : ∃ x, x = Nd.mk k n s l := ⟨_, rfl⟩
  refine Tri.q ?_
  refine tri_of Try.func34 rfl Try.ntmps34 rfl (fun σ F Q hret hend hpan => ?_)
  try simp only [List.cons_append, List.nil_append]
  refine cj_env (Env.le_cons (t := 0) rfl (Env.le_nil _)) ?_
  refine cj_seq (fun K1 hK1 => ?_)
  refine cj_region ?_
  refine rj_box (wn0 rfl) rfl rfl rfl (fun b1 => ?_)
  refine rj_val (wn0 rfl) rfl rfl (y_assign rfl) ?_
  refine rj_val (wn0 rfl) rfl rfl (y_assign rfl) ?_
  refine rj_nil ?_
  refine hK1 _ _ _ ?_
  refine cj_env (Env.le_cons (t := 1) rfl (Env.le_nil _)) ?_
  refine cj_seq (fun K2 hK2 => ?_)
  refine cj_seq (fun K3 hK3 => ?_)
  refine cj_region ?_
  first | refine rj_val (wn0 rfl) rfl rfl (y_loads_blk ⟨Try.isAgg72, Try.sizeOf72⟩ rfl (by ((repeat (first | exact Find.head _ | apply Find.tail)); done)) rfl rfl) ?_ | refine rj_val (wn0 rfl) rfl rfl (y_loads_slc ⟨Try.isAgg72, Try.sizeOf72⟩ rfl (by ((repeat (first | exact Find.head _ | apply Find.tail)); done)) rfl rfl (by (first | omega | (dsimp only; omega) | (simp; done) | (simp; omega)))) ?_
  refine rj_val (wn0 rfl) rfl rfl (y_call Try.call43 rfl (rright_q _ _ hx hd) (by (repeat (first | exact Split.nil _ | (apply Split.cons; focus (repeat (first | exact Find.head _ | apply Find.tail))))))) ?_
  refine rj_val (wn0 rfl) rfl rfl (y_not rfl) ?_
  refine rj_nil ?_
  refine hK3 _ _ _ ?_
  refine cj_cond rfl (fun hc7 => ?_) (fun hc7 => ?_)
  · (try simp only [decide_eq_true_eq, decide_eq_false_iff_not, Bool.not_eq_true', Bool.not_eq_false', Bool.true_eq_false, Bool.false_eq_true] at hc7); have hr : ¬ rightB 20 x = true := by rw [hxe]; simpa using hc7
    refine cj_seq (fun K5 hK5 => ?_)
    refine cj_region ?_
    refine rj_val (wn0 rfl) rfl rfl (y_assign rfl) ?_
    refine rj_val (wn0 rfl) rfl rfl (y_assign rfl) ?_
    refine rj_nil ?_
    refine hK5 _ _ _ ?_
    refine cj_env (Env.le_cons (t := 2) rfl (Env.le_cons (t := 3) rfl (Env.le_nil _))) ?_
    refine cj_ret ?_
    refine hret _ _ _ ?_
    apply ej_ret Try.results34 (.cons (rv_tmp rfl) (.cons (rv_tmp rfl) .nil)) _ [] (by (first | exact Hp.le_refl _ | assumption | exact Hp.le_trans ‹_› ‹_›)) rfl
    case hp => rw [← hxe, show writeM x = ([], false) by unfold writeM; rw [if_neg (fun h => hr h.1)]]; exact ⟨rfl, rfl, rfl⟩
    case hS => (repeat (first | exact Sub.refl _ | (apply Sub.pick; focus (repeat (first | exact Find.head _ | apply Find.tail))) | apply Sub.drop | exact Sub.tailApp _ _))
  · (try simp only [decide_eq_true_eq, decide_eq_false_iff_not, Bool.not_eq_true', Bool.not_eq_false', Bool.true_eq_false, Bool.false_eq_true] at hc7); have hr : rightB 20 x = true := by rw [hxe]; simpa using hc7
    refine cj_skip ?_
    refine hK2 _ _ _ ?_
    refine cj_env (Env.le_cons (t := 1) rfl (Env.le_nil _)) ?_
    refine cj_seq (fun K6 hK6 => ?_)
    refine cj_region ?_
    first | refine rj_val (wn0 rfl) rfl rfl (y_loads_blk ⟨Try.isAgg72, Try.sizeOf72⟩ rfl (by ((repeat (first | exact Find.head _ | apply Find.tail)); done)) rfl rfl) ?_ | refine rj_val (wn0 rfl) rfl rfl (y_loads_slc ⟨Try.isAgg72, Try.sizeOf72⟩ rfl (by ((repeat (first | exact Find.head _ | apply Find.tail)); done)) rfl rfl (by (first | omega | (dsimp only; omega) | (simp; done) | (simp; omega)))) ?_
    refine rj_val (wn0 rfl) rfl rfl (y_call Try.call44 rfl (rbytes_q _ _ _ (Nat.le_refl _) hx hok hb) (by (repeat (first | exact Split.nil _ | (apply Split.cons; focus (repeat (first | exact Find.head _ | apply Find.tail))))))) ?_
    refine rj_val (wn0 rfl) rfl rfl (y_assign rfl) ?_
    refine rj_nil ?_
    refine hK6 _ _ _ ?_
    refine cj_env (Env.le_cons (t := 4) rfl (Env.le_nil _)) ?_
    refine cj_seq (fun K7 hK7 => ?_)
    refine cj_seq (fun K8 hK8 => ?_)
    refine cj_region ?_
    refine rj_val (wn0 rfl) rfl rfl (y_move rfl) ?_
    refine rj_val (wn0 rfl) rfl rfl (y_slen Try.underlying9 rfl) ?_
    refine rj_val (wn0 rfl) rfl rfl (y_gtr rfl rfl) ?_
    refine rj_nil ?_
    refine hK8 _ _ _ ?_
    refine cj_cond rfl (fun hc12 => ?_) (fun hc12 => ?_)
    · try simp only [decide_eq_true_eq, decide_eq_false_iff_not, Bool.not_eq_true', Bool.not_eq_false', Bool.true_eq_false, Bool.false_eq_true] at hc12
      refine cj_seq (fun K10 hK10 => ?_)
      refine cj_region ?_
      refine rj_val (wn0 rfl) rfl rfl (y_assign rfl) ?_
      refine rj_val (wn0 rfl) rfl rfl (y_assign rfl) ?_
      refine rj_nil ?_
      refine hK10 _ _ _ ?_
      refine cj_env (Env.le_cons (t := 2) rfl (Env.le_cons (t := 3) rfl (Env.le_nil _))) ?_
      refine cj_ret ?_
      refine hret _ _ _ ?_
      apply ej_ret Try.results34 (.cons (rv_tmp rfl) (.cons (rv_tmp rfl) .nil)) _ [] (by (first | exact Hp.le_refl _ | assumption | exact Hp.le_trans ‹_› ‹_›)) rfl
      case hp => rw [← hxe] at hc12 ⊢; rw [show writeM x = ([], false) by unfold writeM; rw [if_neg (fun h => by have := h.2; (try simp at hc12); omega)]]; exact ⟨rfl, rfl, rfl⟩
      case hS => (repeat (first | exact Sub.refl _ | (apply Sub.pick; focus (repeat (first | exact Find.head _ | apply Find.tail))) | apply Sub.drop | exact Sub.tailApp _ _))
    · try simp only [decide_eq_true_eq, decide_eq_false_iff_not, Bool.not_eq_true', Bool.not_eq_false', Bool.true_eq_false, Bool.false_eq_true] at hc12
      refine cj_skip ?_
      refine hK7 _ _ _ ?_
      refine cj_env (Env.le_cons (t := 4) rfl (Env.le_nil _)) ?_
      refine cj_seq (fun K11 hK11 => ?_)
      refine cj_region ?_
      refine rj_val (wn0 rfl) rfl rfl (y_move rfl) ?_
      refine rj_val (wn0 rfl) rfl rfl (y_assign rfl) ?_
      refine rj_val (wn0 rfl) rfl rfl (y_assign rfl) ?_
      refine rj_nil ?_
      refine hK11 _ _ _ ?_
      refine cj_ret ?_
      refine hret _ _ _ ?_
      apply ej_ret Try.results34 (.cons (rv_tmp rfl) (.cons (rv_tmp rfl) .nil)) _ [] (by (first | exact Hp.le_refl _ | assumption | exact Hp.le_trans ‹_› ‹_›)) rfl
      case hp => rw [← hxe] at hc12 ⊢; rw [show writeM x = (wr x, true) by unfold writeM; rw [if_pos ⟨hr, by (try simp at hc12); omega⟩]]; exact ⟨rfl, rfl, rfl⟩
      case hS => (repeat (first | exact Sub.refl _ | (apply Sub.pick; focus (repeat (first | exact Find.head _ | apply Find.tail))) | apply Sub.drop | exact Sub.tailApp _ _))
end V
end Go.Proofs.Ythdmbdbncbdmiaa
