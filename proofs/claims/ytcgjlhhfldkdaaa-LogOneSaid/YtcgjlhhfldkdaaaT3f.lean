/- A node read from bytes: the walk. -/
import Derived.Test.YtcgjlhhfldkdaaaT3e
set_option linter.unusedSimpArgs false
set_option linter.unusedVariables false
set_option maxRecDepth 100000
namespace Go.Proofs.Ytcgjlhhfldkdaaa
open Go.RowKit
namespace V
set_option maxHeartbeats 4000000
theorem or_shift (X : Nat) (B : Int) (hB : 0 ≤ B ∧ B < 256) (hX : X < 72057594037927936) : bitOr .u64 (IntKind.u64.wrap ((X : Int) * 2 ^ min (8 : Int).toNat IntKind.u64.bits)) B = ((X * 256 + B.toNat : Nat) : Int) := by
  obtain ⟨A, rfl⟩ := Int.eq_ofNat_of_zero_le hB.1
  have hA : A < 2 ^ 8 := by omega
  have e0 : ((X : Int) * 2 ^ min (8 : Int).toNat IntKind.u64.bits) = ((X * 256 : Nat) : Int) := by
    have : min (8 : Int).toNat IntKind.u64.bits = 8 := by decide
    rw [this]; omega
  rw [e0, wrap_u64_in ⟨by omega, by omega⟩]
  have h2 : (BitVec.ofInt 64 ((X * 256 : Nat) : Int) ||| BitVec.ofInt 64 (A : Int)).toNat = X * 256 + A := by
    simp only [BitVec.ofInt_natCast, BitVec.toNat_or, BitVec.toNat_ofNat]
    rw [Nat.mod_eq_of_lt (by omega), Nat.mod_eq_of_lt (by omega)]
    have := Nat.two_pow_add_eq_or_of_lt (i := 8) (b := A) hA X
    rw [Nat.mul_comm X 256]; exact this.symm
  have h3 : bitOr .u64 ((X * 256 : Nat) : Int) (A : Int) = IntKind.u64.wrap ((X * 256 + A : Nat) : Int) := by rw [← h2]; rfl
  rw [h3, wrap_u64_in ⟨by omega, by omega⟩]
  simp
theorem sz_none {e : Nat} {s : List UInt8} {bad bad2 : Bool} (hb : bad = false) (h : bad2 = true) (z3 : (takeR s bad 1).2.2 = false → bad2 = true → szM 4 0 0 (takeR s bad 1).2.1 = none) : rdM (e + 1) s = none := by
  subst hb
  cases s with
  | nil => rfl
  | cons k r =>
    rw [takeR_one] at z3
    rw [rdM, z3 rfl h]
theorem sz_some {m : Nat} {s s2 : List UInt8} {bad bad2 : Bool} (h : bad2 = false) (z1 : (takeR s bad 1).2.2 = true → bad2 = true) (z2 : (takeR s bad 1).2.2 = false → bad2 = false → szM 4 0 0 (takeR s bad 1).2.1 = some (m, s2)) :
    bad = false ∧ ∃ k r, s = k :: r ∧ szM 4 0 0 r = some (m, s2) ∧ (takeR s bad 1).1 = [k] := by
  cases bad with
  | true => rw [takeR_bad] at z1; rw [z1 rfl] at h; cases h
  | false =>
    cases s with
    | nil => rw [show takeR [] false 1 = ([], [], true) by simp [takeR]] at z1; rw [z1 rfl] at h; cases h
    | cons k r => rw [takeR_one] at z2 ⊢; exact ⟨rfl, k, r, rfl, z2 rfl h, rfl⟩
theorem head_byte {t : List UInt8} (h : 0 < t.length) : (byteAt t 0 = 0) ↔ t.head? = some 0 := by
  cases t with
  | nil => simp at h
  | cons u t =>
    simp only [byteAt, Int.toNat_zero, List.getD_cons_zero, List.head?_cons, Option.some.injEq]
    constructor
    · intro h; exact UInt8.toNat_inj.1 (by simpa using h)
    · rintro rfl; rfl
theorem beN_small {t : List UInt8} {i : Nat} (h8 : t.length ≤ 8) (hi : i < t.length) : beN (t.take i) < 72057594037927936 := by
  have h1 := beN_lt (t.take i)
  have h2 : (t.take i).length ≤ 7 := by rw [List.length_take]; omega
  have h3 : 256 ^ (t.take i).length ≤ 256 ^ 7 := Nat.pow_le_pow_right (by omega) h2
  omega
theorem flat_snoc (css : List (List Value)) (cy : List Value) : css.flatten ++ cy = (css ++ [cy]).flatten := by simp
theorem len_snoc (ks : List Nd) (y : Nd) : ks.length + 1 = (ks ++ [y]).length := by simp
/-- what is known of a number's node behind its bytes -/
def NumI (r : Option (Nd × List UInt8)) (tk : List UInt8 × List UInt8 × Bool) (x : Bool) : Prop :=
  (x = true → r = none) ∧ (x = false → tk.2.2 = false → r = some (.mk 0 (beN tk.1) [] [], tk.2.1)) ∧ (tk.2.2 = true → r = none) ∧ (x = false → tk.1.length ≤ 8)
section
variable {r : Option (Nd × List UInt8)} {s2 : List UInt8} {m : Nat} {tk : List UInt8 × List UInt8 × Bool}
  (hr : r = (if m > 8 ∨ s2.length < m ∨ (m > 0 ∧ s2.head? = some 0) then none else some (.mk 0 (beN (s2.take m)) [] [], s2.drop m))) (htk : tk = takeR s2 false m)
include hr htk
omit htk in
theorem num_a (h : m > 8) : NumI r tk true := by
  have : r = none := by rw [hr, if_pos (.inl h)]
  exact ⟨fun _ => this, fun h => (by cases h), fun _ => this, fun h => (by cases h)⟩
theorem num_b (h8 : ¬ m > 8) (h0 : m > 0) (hb : tk.2.2 = false) : NumI r tk (decide (byteAt tk.1 0 = 0)) := by
  have hs := takeR_spec s2 m
  rw [← htk] at hs
  obtain ⟨_, h1, h2, h3⟩ := hs.resolve_left (by rw [hb]; simp)
  have hl : tk.1.length = m := by rw [h1, List.length_take]; omega
  have hh : tk.1.head? = s2.head? := by
    rw [h1]; cases s2 with
    | nil => simp at h3; omega
    | cons u t => cases m with
      | zero => omega
      | succ m => rfl
  have hk := head_byte (t := tk.1) (by omega)
  rw [hh] at hk
  refine ⟨fun h => ?_, fun h _ => ?_, fun h => (by rw [hb] at h; cases h), fun _ => by omega⟩
  · rw [hr, if_pos (.inr (.inr ⟨h0, hk.1 (of_decide_eq_true h)⟩))]
  · rw [hr, h1, h2, if_neg]
    rintro (h | h | ⟨_, h⟩)
    · exact h8 h
    · omega
    · exact of_decide_eq_false ‹_› (hk.2 h)
theorem num_c (hb : tk.2.2 = true) : NumI r tk false := by
  have hs := takeR_spec s2 m
  rw [← htk] at hs
  obtain ⟨_, h1, h2, h3⟩ := hs.resolve_right (by rw [hb]; simp)
  have : r = none := by rw [hr, if_pos (.inr (.inl h3))]
  exact ⟨fun h => (by cases h), fun _ h => (by rw [hb] at h; cases h), fun _ => this, fun _ => by rw [h1]; simp⟩
theorem num_d (h0 : m = 0) : NumI r tk false := by
  have hs := takeR_spec s2 m
  rw [← htk] at hs
  obtain ⟨h4, h1, h2, h3⟩ := hs.resolve_left (by rintro ⟨_, _, _, h⟩; omega)
  refine ⟨fun h => (by cases h), fun _ _ => ?_, fun h => (by rw [h4] at h; cases h), fun _ => by rw [h1]; simp; omega⟩
  rw [hr, h1, h2, if_neg (by omega)]
end
def RNodeT (d : Nat) : Prop := ∀ (b : Nat) (s : List UInt8) (bad : Bool) {R : Hp}, d ≤ 20 → s.length ≤ big →
    Tri Try.prog 32 [.pointer (some ⟨b, 0, none⟩), .int .i64 (d : Int)] R [rB b s bad] (fun r R' L' => NRead b d s bad r R' L')
theorem rnode_zero : RNodeT 0 := by
  intro b s bad R hd hs
  refine tri_of Try.func32 rfl Try.ntmps32 rfl (fun σ F Q hret hend hpan => ?_)
  try simp only [List.cons_append, List.nil_append]
  refine cj_env (eL 0 rfl (eL 1 rfl eN)) ?_
  refine cj_seq (fun K1 hK1 => ?_)
  refine cj_region ?_
  refine rj_alloc (wn0 rfl) rfl Try.zeroValue62 rfl (fun b4 => ?_)
  refine rj_nil ?_
  refine hK1 _ _ _ ?_
  refine cj_seq (fun K2 hK2 => ?_)
  refine cj_seq (fun K3 hK3 => ?_)
  refine cj_region ?_
  refine rv0 rfl rfl rfl (y_move rfl) ?_
  refine rv0 rfl rfl rfl (y_eql rfl rfl) ?_
  refine rj_nil ?_
  refine hK3 _ _ _ ?_
  refine cj_cond_t rfl ?_
  refine cj_seq (fun K4 hK4 => ?_)
  refine cj_region ?_
  refine rv0 rfl rfl rfl (y_move rfl) ?_
  refine rv0 rfl rfl rfl (y_nilCheck rfl) ?_
  refine rv0 rfl rfl rfl (y_fieldAddr (k := 1) Try.underlying77 rfl (n := 1) (by decide) Try.sizeOf4 rfl) ?_
  refine rj_store ⟨Try.isAgg4, Try.sizeOf4⟩ (wn0 rfl) rfl rfl (by (first | rfl | assumption | (apply cutV_one; assumption))) (by (repeat (first|exact zH _|apply zT));done) rfl rfl ?_
  refine rj_nil ?_
  refine hK4 _ _ _ ?_
  refine cj_env (eL 4 rfl eN) ?_
  refine cj_seq (fun K5 hK5 => ?_)
  refine cj_region ?_
  refine rv0 rfl rfl rfl (y_build (cells := [_, _, _, _]) [(0, 1), (1, 1), (2, 1), (3, 1)] Try.underlying62 Try.zeroValue62 (fun _ => rfl) rfl rfl) ?_
  refine rj_stores ⟨Try.isAgg62, Try.sizeOf62⟩ rfl (wn0 rfl) rfl rfl (by (first | (simp [Value.oneCell']; done) | (intro u hu; simp only [List.mem_cons, List.not_mem_nil, or_false] at hu; rcases hu with rfl | rfl | rfl | rfl <;> first | rfl | assumption))) (by (repeat (first|exact zH _|apply zT));done) (by (simp)) rfl ?_
  refine rj_nil ?_
  refine hK5 _ _ _ ?_
  refine cj_ret ?_
  refine hret _ _ _ ?_
  apply ej_ret Try.results32 (.cons (rv_cells ⟨Try.isAgg62, Try.sizeOf62⟩ rfl (by (repeat (first|exact zH _|apply zT));done) rfl rfl) .nil) _ [rB b s true] (by (first | exact Hp.le_refl _ | assumption | exact Hp.le_trans ‹_› ‹_›)) rfl
  case hp => exact ⟨ndZero, _, s, true, rfl, zero_rep R, rfl, Nat.le_refl _, fun _ => rfl, fun _ h => (by cases h), fun _ _ => rfl⟩
  case hS => (repeat (first|exact zR _|(apply zP;focus (repeat (first|exact zH _|apply zT)))|apply zD|exact zA _ _))
theorem rnode_succ (e : Nat) (ih : RNodeT e) : RNodeT (e + 1) := by
  intro b s bad R hd hs
  have hs0 := hs
  unfold big at hs
  refine tri_of Try.func32 rfl Try.ntmps32 rfl (fun σ F Q hret hend hpan => ?_)
  try simp only [List.cons_append, List.nil_append]
  refine cj_env (eL 0 rfl (eL 1 rfl eN)) ?_
  refine cj_seq (fun K1 hK1 => ?_)
  refine cj_region ?_
  refine rj_alloc (wn0 rfl) rfl Try.zeroValue62 rfl (fun bo => ?_)
  refine rj_nil ?_
  refine hK1 _ _ _ ?_
  refine cj_seq (fun K2 hK2 => ?_)
  refine cj_seq (fun K3 hK3 => ?_)
  refine cj_region ?_
  refine rv0 rfl rfl rfl (y_move rfl) ?_
  refine rv0 rfl rfl rfl (y_eql rfl rfl) ?_
  refine rj_nil ?_
  refine hK3 _ _ _ ?_
  refine cj_cond_f rfl ?_
  refine cj_skip ?_
  refine hK2 _ _ _ ?_
  refine cj_seq (fun K4 hK4 => ?_)
  refine cj_region ?_
  refine rv0 rfl rfl rfl (y_move rfl) ?_
  refine rj_call (wn0 rfl) rfl Try.call42 rfl (rtake_t b s bad 1 hs0 (by decide)) (by (repeat (first|exact zN _|(apply zS;focus (repeat (first|exact zH _|apply zT)))))) (fun _ _ _ _ h => h.elim) ?_
  rintro r R' L' hR ⟨rfl, rfl, rfl⟩
  have hsl : (takeR s bad 1).2.1.length ≤ s.length := by unfold takeR; split; exact Nat.le_refl _; simp
  try simp only [List.cons_append, List.nil_append]
  refine rv0 rfl rfl rfl (y_move rfl) ?_
  refine rj_call (wn0 rfl) rfl Try.call43 rfl (rsizeAny_t b (takeR s bad 1).2.1 (takeR s bad 1).2.2 (Nat.le_trans hsl hs0)) (by (repeat (first|exact zN _|(apply zS;focus (repeat (first|exact zH _|apply zT)))))) (fun _ _ _ _ h => h.elim) ?_
  rintro r R' L' hR ⟨rfl, m, s2, bad2, rfl, rfl, hs2, hm, z1, z2, z3⟩
  try simp only [List.cons_append, List.nil_append]
  refine rv0 rfl rfl rfl (y_assign rfl) ?_
  refine rv0 rfl rfl rfl (y_assign rfl) ?_
  refine rj_nil ?_
  refine hK4 _ _ _ ?_
  refine cj_env (eL 0 rfl (eL 1 rfl (eL 4 rfl (eL 5 rfl (eL 6 rfl eN))))) ?_
  refine cj_seq (fun K5 hK5 => ?_)
  have hJ27 : ∀ (x : List UInt8 × Bool), x.1.length ≤ s.length ∧ (bad = false → rdM (e + 1) s = none) → EJ ⟨Try.prog, 107, σ⟩ K5 [(0, .pointer (some ⟨b, 0, none⟩)), (4, .pointer (some ⟨bo, 0, none⟩))] R (rB b x.1 x.2 :: blk bo [.int .i64 0, .int .u64 0, .string (str []), .slice none 0 0] 62 :: F) := by
   rintro ⟨sj, badj⟩ ⟨hj1, hj2⟩
   try dsimp only
   dsimp only at hj1 hj2
   refine hK5 _ _ _ ?_
   refine cj_seq (fun K6 hK6 => ?_)
   refine cj_region ?_
   refine rv0 rfl rfl rfl (y_move rfl) ?_
   refine rv0 rfl rfl rfl (y_nilCheck rfl) ?_
   refine rv0 rfl rfl rfl (y_fieldAddr (k := 1) Try.underlying77 rfl (n := 1) (by decide) Try.sizeOf4 rfl) ?_
   refine rj_store ⟨Try.isAgg4, Try.sizeOf4⟩ (wn0 rfl) rfl rfl (by (first | rfl | assumption | (apply cutV_one; assumption))) (by (repeat (first|exact zH _|apply zT));done) rfl rfl ?_
   refine rj_nil ?_
   refine hK6 _ _ _ ?_
   refine cj_env (eL 4 rfl eN) ?_
   refine cj_seq (fun K7 hK7 => ?_)
   refine cj_region ?_
   refine rv0 rfl rfl rfl (y_build (cells := [_, _, _, _]) [(0, 1), (1, 1), (2, 1), (3, 1)] Try.underlying62 Try.zeroValue62 (fun _ => rfl) rfl rfl) ?_
   refine rj_stores ⟨Try.isAgg62, Try.sizeOf62⟩ rfl (wn0 rfl) rfl rfl (by (first | (simp [Value.oneCell']; done) | (intro u hu; simp only [List.mem_cons, List.not_mem_nil, or_false] at hu; rcases hu with rfl | rfl | rfl | rfl <;> first | rfl | assumption))) (by (repeat (first|exact zH _|apply zT));done) (by (simp)) rfl ?_
   refine rj_nil ?_
   refine hK7 _ _ _ ?_
   refine cj_ret ?_
   refine hret _ _ _ ?_
   apply ej_ret Try.results32 (.cons (rv_cells ⟨Try.isAgg62, Try.sizeOf62⟩ rfl (by (repeat (first|exact zH _|apply zT));done) rfl rfl) .nil) _ [rB b sj true] (by first | exact Hp.le_refl _ | exact Hp.le_trans hr1 hR2) rfl
   case hp => exact ⟨ndZero, _, sj, true, rfl, zero_rep R, rfl, hj1, fun _ => rfl, fun _ h => (by cases h), fun hb _ => hj2 hb⟩
   case hS => (repeat (first|exact zR _|(apply zP;focus (repeat (first|exact zH _|apply zT)))|apply zD|exact zA _ _))
  refine cj_block ?_
  refine cj_seq (fun K8 hK8 => ?_)
  refine cj_region ?_
  refine rv0 rfl rfl rfl (y_move rfl) ?_
  refine rv0 rfl rfl rfl (y_nilCheck rfl) ?_
  refine rv0 rfl rfl rfl (y_fieldAddr (k := 1) Try.underlying77 rfl (n := 1) (by decide) Try.sizeOf4 rfl) ?_
  first | refine rv0 rfl rfl rfl (y_load ⟨Try.isAgg4, Try.sizeOf4⟩ rfl (by (repeat (first|exact zH _|apply zT));done) rfl) ?_ | refine rv0 rfl rfl rfl (y_load_slc ⟨Try.isAgg4, Try.sizeOf4⟩ rfl (by (repeat (first|exact zH _|apply zT));done) rfl) ?_
  refine rv0 rfl rfl rfl (y_assign rfl) ?_
  refine rj_nil ?_
  refine hK8 _ _ _ ?_
  refine cj_env (eL 0 rfl (eL 1 rfl (eL 4 rfl (eL 5 rfl (eL 6 rfl (eL 22 rfl eN)))))) ?_
  refine cj_cond rfl (fun hc22 => ?_) (fun hc22 => ?_)
  ·subst hc22
   refine cj_skip ?_
   refine ej_join hJ27 ((s2, true)) (⟨by dsimp only; omega, fun hb => sz_none hb rfl z3⟩) (eC rfl (eC rfl eN)) rfl (by (repeat (first|exact zR _|(apply zP;focus (repeat (first|exact zH _|apply zT)))|apply zD|exact zA _ _)))
  ·subst hc22
   obtain ⟨rfl, k, r0, rfl, hz, hk⟩ := sz_some rfl z1 z2
   have hs3 : s2.length ≤ r0.length := by rw [takeR_one] at hs2; exact hs2
   rw [hk]
   refine cj_seq (fun K10 hK10 => ?_)
   refine cj_region ?_
   refine rv0 rfl rfl rfl (y_move rfl) ?_
   refine rv0 rfl rfl rfl (y_seql rfl rfl) ?_
   refine rv0 rfl rfl rfl (y_assign rfl) ?_
   refine rj_nil ?_
   refine hK10 _ _ _ ?_
   refine cj_env (eL 0 rfl (eL 1 rfl (eL 4 rfl (eL 5 rfl (eL 6 rfl (eL 27 rfl eN)))))) ?_
   refine cj_cond rfl (fun hc27 => ?_) (fun hc27 => ?_)
   ·(try simp only [dT, dF, nT, nF, tF, fT] at hc27); obtain rfl : k = 110 := by simpa using hc27
    refine cj_seq (fun K12 hK12 => ?_)
    refine cj_region ?_
    refine rv0 rfl rfl rfl (y_move rfl) ?_
    refine rv0 rfl rfl rfl (y_move rfl) ?_
    refine rj_call (wn0 rfl) rfl Try.call42 rfl (rtake_t b s2 false m (Nat.le_trans hs2 (Nat.le_trans hsl hs0)) (by unfold big; omega)) (by (repeat (first|exact zN _|(apply zS;focus (repeat (first|exact zH _|apply zT)))))) (fun _ _ _ _ h => h.elim) ?_
    rintro r R' L' hR ⟨rfl, rfl, rfl⟩
    have htk := takeR_spec s2 m
    obtain ⟨tk, htk0⟩ : ∃ tk, tk = takeR s2 false m := ⟨_, rfl⟩
    rw [← htk0] at htk ⊢
    have hrd : rdM (e + 1) (110 :: r0) = (if m > 8 ∨ s2.length < m ∨ (m > 0 ∧ s2.head? = some 0) then none else some (.mk 0 (beN (s2.take m)) [] [], s2.drop m)) := by rw [rdM, hz]; simp
    try simp only [List.cons_append, List.nil_append]
    refine rv0 rfl rfl rfl (y_assign rfl) ?_
    refine rj_nil ?_
    refine hK12 _ _ _ ?_
    refine cj_env (eL 0 rfl (eL 4 rfl (eL 6 rfl (eL 7 rfl eN)))) ?_
    refine cj_seq (fun K13 hK13 => ?_)
    refine cj_seq (fun K14 hK14 => ?_)
    have hJ9 : ∀ (x : Bool), NumI (rdM (e + 1) (110 :: r0)) tk x → EJ ⟨Try.prog, 107, σ⟩ K14 [(0, .pointer (some ⟨b, 0, none⟩)), (4, .pointer (some ⟨bo, 0, none⟩)), (7, .string (str tk.1)), (50, .bool x)] R (rB b tk.2.1 tk.2.2 :: blk bo [.int .i64 0, .int .u64 0, .string (str []), .slice none 0 0] 62 :: F) := by
     rintro x ⟨j1, j2, j3, j4⟩
     try dsimp only
     have hk3 : tk.2.1.length ≤ (110 :: r0).length := by rcases htk with h | h; rw [h.2.2.1, List.length_cons]; omega; rw [h.2.2.1]; simp; omega
     refine hK14 _ _ _ ?_
     refine cj_cond rfl (fun hc50 => ?_) (fun hc50 => ?_)
     ·subst hc50
      refine cj_seq (fun K16 hK16 => ?_)
      refine cj_region ?_
      refine rv0 rfl rfl rfl (y_move rfl) ?_
      refine rv0 rfl rfl rfl (y_nilCheck rfl) ?_
      refine rv0 rfl rfl rfl (y_fieldAddr (k := 1) Try.underlying77 rfl (n := 1) (by decide) Try.sizeOf4 rfl) ?_
      refine rj_store ⟨Try.isAgg4, Try.sizeOf4⟩ (wn0 rfl) rfl rfl (by (first | rfl | assumption | (apply cutV_one; assumption))) (by (repeat (first|exact zH _|apply zT));done) rfl rfl ?_
      refine rj_nil ?_
      refine hK16 _ _ _ ?_
      refine cj_env (eL 4 rfl eN) ?_
      refine cj_seq (fun K17 hK17 => ?_)
      refine cj_region ?_
      refine rv0 rfl rfl rfl (y_build (cells := [_, _, _, _]) [(0, 1), (1, 1), (2, 1), (3, 1)] Try.underlying62 Try.zeroValue62 (fun _ => rfl) rfl rfl) ?_
      refine rj_stores ⟨Try.isAgg62, Try.sizeOf62⟩ rfl (wn0 rfl) rfl rfl (by (first | (simp [Value.oneCell']; done) | (intro u hu; simp only [List.mem_cons, List.not_mem_nil, or_false] at hu; rcases hu with rfl | rfl | rfl | rfl <;> first | rfl | assumption))) (by (repeat (first|exact zH _|apply zT));done) (by (simp)) rfl ?_
      refine rj_nil ?_
      refine hK17 _ _ _ ?_
      refine cj_ret ?_
      refine hret _ _ _ ?_
      apply ej_ret Try.results32 (.cons (rv_cells ⟨Try.isAgg62, Try.sizeOf62⟩ rfl (by (repeat (first|exact zH _|apply zT));done) rfl rfl) .nil) _ [rB b tk.2.1 true] (by first | exact Hp.le_refl _ | exact Hp.le_trans hr1 hR2) rfl
      case hp => exact ⟨ndZero, _, _, true, rfl, zero_rep R, rfl, hk3, fun _ => rfl, fun _ h => (by cases h), fun _ _ => j1 rfl⟩
      case hS => (repeat (first|exact zR _|(apply zP;focus (repeat (first|exact zH _|apply zT)))|apply zD|exact zA _ _))
     ·subst hc50
      refine cj_skip ?_
      refine hK13 _ _ _ ?_
      refine cj_seq (fun K18 hK18 => ?_)
      refine cj_region ?_
      refine rv0 rfl rfl rfl (y_assign rfl) ?_
      refine rj_nil ?_
      refine hK18 _ _ _ ?_
      refine cj_seq (fun K19 hK19 => ?_)
      refine cj_seq (fun K20 hK20 => ?_)
      refine cj_region ?_
      refine rv0 rfl rfl rfl (y_move rfl) ?_
      refine rv0 rfl rfl rfl (y_slen Try.underlying9 rfl) ?_
      refine rv0 rfl rfl rfl (y_move rfl) ?_
      refine rj_nil ?_
      refine hK20 _ _ _ ?_
      refine cj_env (eL 4 rfl (eL 7 rfl (eL 8 rfl (eL 56 rfl (eL 57 rfl eN))))) ?_
      refine cj_block ?_
      have h8 := j4 rfl
      refine cj_env (E' := (fun (x : Nat) => [(4, .pointer (some ⟨bo, 0, none⟩)), (7, .string (str tk.1)), (8, .int .u64 (beN (tk.1.take x) : Int)), (56, .int .i64 (tk.1.length : Int)), (57, .int .i64 (x : Int))]) 0) (eC rfl (eC rfl (eC rfl (eC rfl (eC rfl eN))))) ?_
      refine cj_sub (M := (fun (x : Nat) => rB b tk.2.1 tk.2.2 :: blk bo [.int .i64 0, .int .u64 0, .string (str []), .slice none 0 0] 62 :: F) 0) (by (repeat (first|exact zR _|(apply zP;focus (repeat (first|exact zH _|apply zT)))|apply zD|exact zA _ _))) ?_
      refine cj_loop (fun (x : Nat) => [(4, .pointer (some ⟨bo, 0, none⟩)), (7, .string (str tk.1)), (8, .int .u64 (beN (tk.1.take x) : Int)), (56, .int .i64 (tk.1.length : Int)), (57, .int .i64 (x : Int))]) (fun (x : Nat) => R) (fun (x : Nat) => rB b tk.2.1 tk.2.2 :: blk bo [.int .i64 0, .int .u64 0, .string (str []), .slice none 0 0] 62 :: F) (fun (x : Nat) => x ≤ tk.1.length) (fun (x : Nat) => tk.1.length - x) 0 (by simp) ?_
      rintro i hI13
      try dsimp only
      refine cj_seq (fun K21 hK21 => ?_)
      refine cj_region ?_
      refine rv0 rfl rfl rfl (y_lss rfl rfl) ?_
      refine rj_nil ?_
      refine hK21 _ _ _ ?_
      refine cj_seq (fun K22 hK22 => ?_)
      refine cj_cond rfl (fun hc58 => ?_) (fun hc58 => ?_)
      ·try simp only [dT, dF, nT, nF, tF, fT] at hc58
       refine cj_skip ?_
       refine hK22 _ _ _ ?_
       refine cj_seq (fun K24 hK24 => ?_)
       refine cj_block ?_
       refine cj_seq (fun K25 hK25 => ?_)
       refine cj_region ?_
       refine rv0 rfl rfl rfl (y_move rfl) ?_
       refine rv0 rfl rfl rfl (y_assign rfl) ?_
       refine rj_nil ?_
       refine hK25 _ _ _ ?_
       refine cj_region ?_
       have hlt := beN_small (t := tk.1) (i := i) h8 (by omega)
       have h4 := byteAt_bd tk.1 i
       refine rv0 rfl rfl rfl (y_move rfl) ?_
       refine rv0 rfl rfl rfl (y_shl rfl rfl (by (first | omega | (dsimp only; omega) | (simp; done) | (simp; omega)))) ?_
       refine rv0 rfl rfl rfl (y_move rfl) ?_
       refine rv0 rfl rfl rfl (y_move rfl) ?_
       refine rv0 rfl rfl rfl (y_index_s Try.underlying9 rfl rfl (by (first | omega | (dsimp only; omega) | (simp; done) | (simp; omega)))) ?_
       refine rv0 rfl rfl rfl ((y_conv_in Try.underlying5 Try.underlying25 rfl (by simp only [IntKind.min, IntKind.max, IntKind.signed, IntKind.bits, Bool.false_eq_true, ite_false]; omega))) ?_
       refine rv0 rfl rfl rfl (y_or rfl rfl) ?_
       refine rj_eq 66 rfl (v' := .int .u64 (beN (tk.1.take (i + 1)) : Int)) (by rw [beN_take (by omega)]; exact congrArg _ (or_shift _ _ h4 hlt)) ?_
       refine rv0 rfl rfl rfl (y_assign rfl) ?_
       refine rj_nil ?_
       refine hK24 _ _ _ ?_
       refine cj_env (eL 4 rfl (eL 7 rfl (eL 8 rfl (eL 56 rfl (eL 57 rfl eN))))) ?_
       refine cj_region ?_
       first | refine rv0 rfl rfl rfl (y_add64 rfl rfl (by (first | omega | (dsimp only; omega) | (simp; done) | (simp; omega)))) ?_ | refine rv0 rfl rfl rfl (y_add rfl rfl) ?_
       refine rv0 rfl rfl rfl (y_move rfl) ?_
       refine rj_nil ?_
       refine ej_on (q' := roundK _ _ _ _ _ _ _) rfl ?_
       refine ej_round (i + 1) (by omega) (by omega) (eC rfl (eC rfl (eC rfl (eC rfl (eC rfl eN))))) rfl (by (repeat (first|exact zR _|(apply zP;focus (repeat (first|exact zH _|apply zT)))|apply zD|exact zA _ _)))
      ·try simp only [dT, dF, nT, nF, tF, fT] at hc58
       refine cj_exit ?_
       refine hK19 _ _ _ ?_
       refine cj_env (eL 4 rfl (eL 8 rfl eN)) ?_
       refine cj_seq (fun K26 hK26 => ?_)
       refine cj_region ?_
       rw [List.take_of_length_le (by omega)]
       refine rv0 rfl rfl rfl (y_move rfl) ?_
       refine rv0 rfl rfl rfl (y_call Try.call24 rfl (numN_q _) (by (repeat (first|exact zN _|(apply zS;focus (repeat (first|exact zH _|apply zT))))))) ?_
       refine rj_stores ⟨Try.isAgg62, Try.sizeOf62⟩ rfl (wn0 rfl) rfl rfl (by (first | (simp [Value.oneCell']; done) | (intro u hu; simp only [List.mem_cons, List.not_mem_nil, or_false] at hu; rcases hu with rfl | rfl | rfl | rfl <;> first | rfl | assumption))) (by (repeat (first|exact zH _|apply zT));done) (by (simp)) rfl ?_
       refine rj_nil ?_
       refine hK26 _ _ _ ?_
       refine cj_env (eL 4 rfl eN) ?_
       refine cj_ret ?_
       refine hret _ _ _ ?_
       apply ej_ret Try.results32 (.cons (rv_cells ⟨Try.isAgg62, Try.sizeOf62⟩ rfl (by (repeat (first|exact zH _|apply zT));done) rfl rfl) .nil) _ [rB b tk.2.1 tk.2.2] (by first | exact Hp.le_refl _ | exact Hp.le_trans hr1 hR2) rfl
       case hp => exact ⟨.mk 0 (beN tk.1) [] [], _, _, _, rfl, RepL.node (by simp [big]) (RepL.nil R), rfl, hk3, fun h => (by cases h), fun _ h => j2 rfl h, fun _ h => j3 h⟩
       case hS => (repeat (first|exact zR _|(apply zP;focus (repeat (first|exact zH _|apply zT)))|apply zD|exact zA _ _))
    refine cj_region ?_
    refine rv0 rfl rfl rfl (y_move rfl) ?_
    refine rv0 rfl rfl rfl (y_gtr rfl rfl) ?_
    refine rv0 rfl rfl rfl (y_move rfl) ?_
    refine rj_part 35 rfl (fun hg35 => ?_) (fun hg35 => ?_)
    ·(try simp only [dT, dF, nT, nF, tF, fT] at hg35)
     refine rj_skip (wn2 rfl rfl rfl rfl rfl) rfl rfl ?_
     refine rj_skip (wn2 rfl rfl rfl rfl rfl) rfl rfl ?_
     refine rj_skip (wn2 rfl rfl rfl rfl rfl) rfl rfl ?_
     refine rj_skip (wn3 rfl rfl rfl rfl) rfl rfl ?_
     refine rj_skip (wn3 rfl rfl rfl rfl) rfl rfl ?_
     refine rj_skip (wn3 rfl rfl rfl rfl) rfl rfl ?_
     refine rj_skip (wn3 rfl rfl rfl rfl) rfl rfl ?_
     refine rj_skip (wn3 rfl rfl rfl rfl) rfl rfl ?_
     refine rj_skip (wn2 rfl rfl rfl rfl rfl) rfl rfl ?_
     refine rj_skip (wn2 rfl rfl rfl rfl rfl) rfl rfl ?_
     refine rj_skip (wn3 rfl rfl rfl rfl) rfl rfl ?_
     refine rj_skip (wn3 rfl rfl rfl rfl) rfl rfl ?_
     refine rj_skip (wn3 rfl rfl rfl rfl) rfl rfl ?_
     refine rj_skip (wn2 rfl rfl rfl rfl rfl) rfl rfl ?_
     refine rv0 rfl rfl rfl (y_pick_t rfl rfl) ?_
     refine rj_nil ?_
     refine ej_join hJ9 (true) (num_a hrd (by (try simp at hg35); omega)) (eC rfl (eC rfl (eC rfl (eC rfl eN)))) rfl (by (repeat (first|exact zR _|(apply zP;focus (repeat (first|exact zH _|apply zT)))|apply zD|exact zA _ _)))
    ·(try simp only [dT, dF, nT, nF, tF, fT] at hg35)
     refine rj_val (wn1 rfl rfl rfl rfl) rfl rfl (y_move rfl) ?_
     refine rj_val (wn1 rfl rfl rfl rfl) rfl rfl (y_gtr rfl rfl) ?_
     refine rj_val (wn1 rfl rfl rfl rfl) rfl rfl (y_move rfl) ?_
     refine rj_part 38 rfl (fun hg38 => ?_) (fun hg38 => ?_)
     ·try simp only [dT, dF, nT, nF, tF, fT] at hg38
      refine rj_val (wn1 rfl rfl rfl rfl) rfl rfl (y_move rfl) ?_
      refine rj_val (wn1 rfl rfl rfl rfl) rfl rfl (y_nilCheck rfl) ?_
      refine rj_val (wn1 rfl rfl rfl rfl) rfl rfl (y_fieldAddr (k := 1) Try.underlying77 rfl (n := 1) (by decide) Try.sizeOf4 rfl) ?_
      first | refine rj_val (wn1 rfl rfl rfl rfl) rfl rfl (y_load ⟨Try.isAgg4, Try.sizeOf4⟩ rfl (by (repeat (first|exact zH _|apply zT));done) rfl) ?_ | refine rj_val (wn1 rfl rfl rfl rfl) rfl rfl (y_load_slc ⟨Try.isAgg4, Try.sizeOf4⟩ rfl (by (repeat (first|exact zH _|apply zT));done) rfl) ?_
      refine rj_val (wn1 rfl rfl rfl rfl) rfl rfl (y_not rfl) ?_
      refine rj_val (wn1 rfl rfl rfl rfl) rfl rfl (y_pick_t rfl rfl) ?_
      refine rj_val (wn1 rfl rfl rfl rfl) rfl rfl (y_move rfl) ?_
      refine rj_part 45 rfl (fun hg45 => ?_) (fun hg45 => ?_)
      ·(try simp only [dT, dF, nT, nF, tF, fT] at hg45)
       have hbd : tk.2.2 = false := by simpa using hg45
       have hk2 := (htk.resolve_left (by rw [hbd]; simp)).2
       have htl : tk.1.length = m := by rw [hk2.1, List.length_take]; omega
       refine rj_val (wn1 rfl rfl rfl rfl) rfl rfl (y_move rfl) ?_
       refine rj_val (wn1 rfl rfl rfl rfl) rfl rfl (y_index_s Try.underlying9 rfl rfl (by (first | omega | (dsimp only; omega) | (simp; done) | (simp; omega)))) ?_
       refine rj_val (wn1 rfl rfl rfl rfl) rfl rfl (y_eql rfl rfl) ?_
       refine rj_val (wn1 rfl rfl rfl rfl) rfl rfl (y_pick_t rfl rfl) ?_
       refine rv0 rfl rfl rfl (y_pick_f rfl rfl) ?_
       refine rj_nil ?_
       refine ej_join hJ9 ((decide (byteAt tk.1 0 = 0))) (num_b hrd htk0 (by (try simp at hg35); omega) (by (try simp at hg38); omega) hbd) (eC rfl (eC rfl (eC rfl (eC rfl eN)))) rfl (by (repeat (first|exact zR _|(apply zP;focus (repeat (first|exact zH _|apply zT)))|apply zD|exact zA _ _)))
      ·(try simp only [dT, dF, nT, nF, tF, fT] at hg45)
       have hbd : tk.2.2 = true := by simpa using hg45
       refine rj_skip (wn2 rfl rfl rfl rfl rfl) rfl rfl ?_
       refine rj_skip (wn2 rfl rfl rfl rfl rfl) rfl rfl ?_
       refine rj_skip (wn2 rfl rfl rfl rfl rfl) rfl rfl ?_
       refine rj_val (wn1 rfl rfl rfl rfl) rfl rfl (y_pick_f rfl rfl) ?_
       refine rv0 rfl rfl rfl (y_pick_f rfl rfl) ?_
       refine rj_nil ?_
       refine ej_join hJ9 (false) (num_c hrd htk0 hbd) (eC rfl (eC rfl (eC rfl (eC rfl eN)))) rfl (by (repeat (first|exact zR _|(apply zP;focus (repeat (first|exact zH _|apply zT)))|apply zD|exact zA _ _)))
     ·try simp only [dT, dF, nT, nF, tF, fT] at hg38
      refine rj_skip (wn2 rfl rfl rfl rfl rfl) rfl rfl ?_
      refine rj_skip (wn2 rfl rfl rfl rfl rfl) rfl rfl ?_
      refine rj_skip (wn2 rfl rfl rfl rfl rfl) rfl rfl ?_
      refine rj_skip (wn2 rfl rfl rfl rfl rfl) rfl rfl ?_
      refine rj_skip (wn2 rfl rfl rfl rfl rfl) rfl rfl ?_
      refine rj_val (wn1 rfl rfl rfl rfl) rfl rfl (y_pick_f rfl rfl) ?_
      refine rj_val (wn1 rfl rfl rfl rfl) rfl rfl (y_move rfl) ?_
      refine rj_skip (wn2 rfl rfl rfl rfl rfl) rfl rfl ?_
      refine rj_skip (wn2 rfl rfl rfl rfl rfl) rfl rfl ?_
      refine rj_skip (wn2 rfl rfl rfl rfl rfl) rfl rfl ?_
      refine rj_val (wn1 rfl rfl rfl rfl) rfl rfl (y_pick_f rfl rfl) ?_
      refine rv0 rfl rfl rfl (y_pick_f rfl rfl) ?_
      refine rj_nil ?_
      refine ej_join hJ9 (false) (num_d hrd htk0 (by (try simp at hg38); omega)) (eC rfl (eC rfl (eC rfl (eC rfl eN)))) rfl (by (repeat (first|exact zR _|(apply zP;focus (repeat (first|exact zH _|apply zT)))|apply zD|exact zA _ _)))
   ·try simp only [dT, dF, nT, nF, tF, fT] at hc27
    refine cj_seq (fun K27 hK27 => ?_)
    refine cj_region ?_
    refine rv0 rfl rfl rfl (y_move rfl) ?_
    refine rv0 rfl rfl rfl (y_seql rfl rfl) ?_
    refine rv0 rfl rfl rfl (y_assign rfl) ?_
    refine rj_nil ?_
    refine hK27 _ _ _ ?_
    refine cj_env (eL 0 rfl (eL 1 rfl (eL 4 rfl (eL 5 rfl (eL 6 rfl (eL 70 rfl eN)))))) ?_
    refine cj_cond rfl (fun hc70 => ?_) (fun hc70 => ?_)
    ·(try simp only [dT, dF, nT, nF, tF, fT] at hc70); obtain rfl : k = 115 := by simpa using hc70
     refine cj_seq (fun K29 hK29 => ?_)
     refine cj_region ?_
     refine rv0 rfl rfl rfl (y_move rfl) ?_
     refine rv0 rfl rfl rfl (y_move rfl) ?_
     refine rj_call (wn0 rfl) rfl Try.call42 rfl (rtake_t b s2 false m (Nat.le_trans hs2 (Nat.le_trans hsl hs0)) (by unfold big; omega)) (by (repeat (first|exact zN _|(apply zS;focus (repeat (first|exact zH _|apply zT)))))) (fun _ _ _ _ h => h.elim) ?_
     rintro r R' L' hR ⟨rfl, rfl, rfl⟩
     have htk := takeR_spec s2 m
     obtain ⟨tk, htk0⟩ : ∃ tk, tk = takeR s2 false m := ⟨_, rfl⟩
     rw [← htk0] at htk ⊢
     have hrd : rdM (e + 1) (115 :: r0) = (if s2.length < m then none else some (.mk 1 0 (s2.take m) [], s2.drop m)) := by rw [rdM, hz]; simp
     have hk3 : tk.2.1.length ≤ (115 :: r0).length := by rcases htk with h | h; rw [h.2.2.1, List.length_cons]; omega; rw [h.2.2.1]; simp; omega
     have hk4 : tk.1.length ≤ big := by unfold big; rcases htk with h | h; rw [h.2.1]; simp; rw [h.2.1]; simp; omega
     have j2 : tk.2.2 = false → rdM (e + 1) (115 :: r0) = some (.mk 1 0 tk.1 [], tk.2.1) := fun h => by rcases htk with h1 | h1; rw [h1.1] at h; cases h; rw [hrd, if_neg (by omega), h1.2.1, h1.2.2.1]
     have j3 : tk.2.2 = true → rdM (e + 1) (115 :: r0) = none := fun h => by rcases htk with h1 | h1; rw [hrd, if_pos h1.2.2.2]; rw [h1.1] at h; cases h
     try simp only [List.cons_append, List.nil_append]
     refine rv0 rfl rfl rfl (y_call Try.call40 rfl (numS_q _) (by (repeat (first|exact zN _|(apply zS;focus (repeat (first|exact zH _|apply zT))))))) ?_
     refine rj_stores ⟨Try.isAgg62, Try.sizeOf62⟩ rfl (wn0 rfl) rfl rfl (by (first | (simp [Value.oneCell']; done) | (intro u hu; simp only [List.mem_cons, List.not_mem_nil, or_false] at hu; rcases hu with rfl | rfl | rfl | rfl <;> first | rfl | assumption))) (by (repeat (first|exact zH _|apply zT));done) (by (simp)) rfl ?_
     refine rj_nil ?_
     refine hK29 _ _ _ ?_
     refine cj_env (eL 4 rfl eN) ?_
     refine cj_ret ?_
     refine hret _ _ _ ?_
     apply ej_ret Try.results32 (.cons (rv_cells ⟨Try.isAgg62, Try.sizeOf62⟩ rfl (by (repeat (first|exact zH _|apply zT));done) rfl rfl) .nil) _ [rB b tk.2.1 tk.2.2] (by first | exact Hp.le_refl _ | exact Hp.le_trans hr1 hR2) rfl
     case hp => exact ⟨.mk 1 0 tk.1 [], _, _, _, rfl, RepL.node hk4 (RepL.nil R), rfl, hk3, fun h => (by cases h), fun _ h => j2 h, fun _ h => j3 h⟩
     case hS => (repeat (first|exact zR _|(apply zP;focus (repeat (first|exact zH _|apply zT)))|apply zD|exact zA _ _))
    ·try simp only [dT, dF, nT, nF, tF, fT] at hc70
     refine cj_seq (fun K30 hK30 => ?_)
     refine cj_region ?_
     refine rv0 rfl rfl rfl (y_move rfl) ?_
     refine rv0 rfl rfl rfl (y_seql rfl rfl) ?_
     refine rv0 rfl rfl rfl (y_assign rfl) ?_
     refine rj_nil ?_
     refine hK30 _ _ _ ?_
     refine cj_env (eL 0 rfl (eL 1 rfl (eL 4 rfl (eL 6 rfl (eL 77 rfl eN))))) ?_
     refine cj_cond rfl (fun hc77 => ?_) (fun hc77 => ?_)
     ·(try simp only [dT, dF, nT, nF, tF, fT] at hc77); obtain rfl : k = 108 := by simpa using hc77
      refine cj_seq (fun K32 hK32 => ?_)
      refine cj_region ?_
      have hrd : rdM (e + 1) (108 :: r0) = (match rdL (rdM e) m s2 with | none => none | some (l, r') => some (.mk 2 0 [] l, r')) := by rw [rdM, hz]; simp only; rw [if_neg (by decide), if_neg (by decide), if_pos trivial]; rfl
      refine rv0 rfl rfl rfl (y_build (cells := [_, _, _, _]) [(0, 1), (1, 1), (2, 1), (3, 1)] Try.underlying62 Try.zeroValue62 (fun _ => rfl) rfl rfl) ?_
      refine rj_alloc (wn0 rfl) rfl Try.zeroValue62 rfl (fun bl => ?_)
      refine rj_stores ⟨Try.isAgg62, Try.sizeOf62⟩ rfl (wn0 rfl) rfl rfl (by (first | (simp [Value.oneCell']; done) | (intro u hu; simp only [List.mem_cons, List.not_mem_nil, or_false] at hu; rcases hu with rfl | rfl | rfl | rfl <;> first | rfl | assumption))) (by (repeat (first|exact zH _|apply zT));done) (by (simp)) rfl ?_
      refine rj_add (A := slc 62 4 (.slice none 0 0) 0 []) (slc_nil _ _) ?_
      refine rj_nil ?_
      refine hK32 _ _ _ ?_
      refine cj_seq (fun K33 hK33 => ?_)
      refine cj_seq (fun K34 hK34 => ?_)
      refine cj_region ?_
      refine rv0 rfl rfl rfl (y_assign rfl) ?_
      refine rj_nil ?_
      refine hK34 _ _ _ ?_
      refine cj_block ?_
      refine cj_env (E' := (fun (x : List Nd × List (List Value) × Value × List UInt8 × Bool × Hp) => [(0, .pointer (some ⟨b, 0, none⟩)), (1, .int .i64 ((e + 1 : Nat) : Int)), (4, .pointer (some ⟨bo, 0, none⟩)), (6, .int .i64 (m : Int)), (10, .pointer (some ⟨bl, 0, none⟩)), (11, .int .i64 (x.1.length : Int))]) ([], [], .slice none 0 0, s2, false, R)) (eC rfl (eC rfl (eC rfl (eC rfl (eC rfl (Env.le_cons (Eq.trans rfl (congrArg some (by first | rfl | (exact congrArg (Value.int .i64) (by simp))))) eN)))))) ?_
      refine cj_sub (M := (fun (x : List Nd × List (List Value) × Value × List UInt8 × Bool × Hp) => rB b x.2.2.2.1 x.2.2.2.2.1 :: slc 62 4 x.2.2.1 x.1.length x.2.1.flatten :: blk bl [.int .i64 2, .int .u64 0, .string (str []), x.2.2.1] 62 :: blk bo [.int .i64 0, .int .u64 0, .string (str []), .slice none 0 0] 62 :: F) ([], [], .slice none 0 0, s2, false, R)) (by (repeat (first|exact zR _|(apply zP;focus (repeat (first|exact zH _|apply zT)))|apply zD|exact zA _ _))) ?_
      refine cj_loop (fun (x : List Nd × List (List Value) × Value × List UInt8 × Bool × Hp) => [(0, .pointer (some ⟨b, 0, none⟩)), (1, .int .i64 ((e + 1 : Nat) : Int)), (4, .pointer (some ⟨bo, 0, none⟩)), (6, .int .i64 (m : Int)), (10, .pointer (some ⟨bl, 0, none⟩)), (11, .int .i64 (x.1.length : Int))]) (fun (x : List Nd × List (List Value) × Value × List UInt8 × Bool × Hp) => x.2.2.2.2.2) (fun (x : List Nd × List (List Value) × Value × List UInt8 × Bool × Hp) => rB b x.2.2.2.1 x.2.2.2.2.1 :: slc 62 4 x.2.2.1 x.1.length x.2.1.flatten :: blk bl [.int .i64 2, .int .u64 0, .string (str []), x.2.2.1] 62 :: blk bo [.int .i64 0, .int .u64 0, .string (str []), .slice none 0 0] 62 :: F) (fun (x : List Nd × List (List Value) × Value × List UInt8 × Bool × Hp) => R.le x.2.2.2.2.2 ∧ x.1.length ≤ m ∧ Kids x.2.2.2.2.2 x.1 x.2.1 ∧ x.2.2.2.1.length ≤ s2.length ∧ (x.2.2.2.2.1 = false → rdL (rdM e) m s2 = (rdL (rdM e) (m - x.1.length) x.2.2.2.1).map (fun p => (x.1 ++ p.1, p.2))) ∧ (x.2.2.2.2.1 = true → rdL (rdM e) m s2 = none)) (fun (x : List Nd × List (List Value) × Value × List UInt8 × Bool × Hp) => m - x.1.length) ([], [], .slice none 0 0, s2, false, R) (⟨Hp.le_refl R, by simp, ⟨rfl, fun i x cs h _ => by simp at h⟩, Nat.le_refl _, fun _ => by simp, fun h => (by cases h)⟩) ?_
      rintro ⟨ks, css, v, sj, badj, R1⟩ ⟨hr1, hi, hk, hsj, q1, q2⟩
      try dsimp only
      dsimp only at hr1 hi hk hsj q1 q2
      refine cj_seq (fun K35 hK35 => ?_)
      refine cj_seq (fun K36 hK36 => ?_)
      refine cj_region ?_
      refine rv0 rfl rfl rfl (y_move rfl) ?_
      refine rv0 rfl rfl rfl (y_move rfl) ?_
      refine rv0 rfl rfl rfl (y_lss rfl rfl) ?_
      refine rv0 rfl rfl rfl (y_move rfl) ?_
      refine rj_part 84 rfl (fun hg84 => ?_) (fun hg84 => ?_)
      ·try simp only [dT, dF, nT, nF, tF, fT] at hg84
       refine rj_val (wn1 rfl rfl rfl rfl) rfl rfl (y_move rfl) ?_
       refine rj_val (wn1 rfl rfl rfl rfl) rfl rfl (y_nilCheck rfl) ?_
       refine rj_val (wn1 rfl rfl rfl rfl) rfl rfl (y_fieldAddr (k := 1) Try.underlying77 rfl (n := 1) (by decide) Try.sizeOf4 rfl) ?_
       first | refine rj_val (wn1 rfl rfl rfl rfl) rfl rfl (y_load ⟨Try.isAgg4, Try.sizeOf4⟩ rfl (by (repeat (first|exact zH _|apply zT));done) rfl) ?_ | refine rj_val (wn1 rfl rfl rfl rfl) rfl rfl (y_load_slc ⟨Try.isAgg4, Try.sizeOf4⟩ rfl (by (repeat (first|exact zH _|apply zT));done) rfl) ?_
       refine rj_val (wn1 rfl rfl rfl rfl) rfl rfl (y_not rfl) ?_
       refine rv0 rfl rfl rfl (y_pick_t rfl rfl) ?_
       refine rj_nil ?_
       refine hK36 _ _ _ ?_
       refine cj_env (eL 0 rfl (eL 1 rfl (eL 4 rfl (eL 6 rfl (eL 10 rfl (eL 11 rfl (eL 90 rfl eN))))))) ?_
       refine cj_cond rfl (fun hc90 => ?_) (fun hc90 => ?_)
       ·(try simp only [dT, dF, nT, nF, tF, fT] at hc90); obtain rfl : badj = false := by simpa using hc90
        refine cj_skip ?_
        refine hK35 _ _ _ ?_
        refine cj_seq (fun K38 hK38 => ?_)
        refine cj_block ?_
        refine cj_mixg (L := [blk bl [.int .i64 2, .int .u64 0, .string (str []), v] 62]) [0, 1, 2, 3, 4] [5, 6] [7, 8, 9] _ (by (repeat (first|exact zR _|(apply zP;focus (repeat (first|exact zH _|apply zT)))|apply zD|exact zA _ _))) (by kernel_rfl) (by kernel_rfl) (by kernel_rfl) rfl ?_
        refine fj_val rfl rfl rfl (wn0 rfl) (fun R1 hR1 G => (y_fieldAddr (k := 3) Try.underlying62 rfl (n := 1) (by decide) Try.sizeOf60 rfl)) ?_
        first | refine fj_val rfl rfl rfl (wn0 rfl) (fun R1 hR1 G => (y_load ⟨Try.isAgg60, Try.sizeOf60⟩ rfl (by (repeat (first|exact zH _|apply zT));done) rfl)) ?_ | refine fj_val rfl rfl rfl (wn0 rfl) (fun R1 hR1 G => (y_load_slc ⟨Try.isAgg60, Try.sizeOf60⟩ rfl (by (repeat (first|exact zH _|apply zT));done) rfl)) ?_
        refine fj_val rfl rfl rfl (wn0 rfl) (fun R1 hR1 G => (y_move rfl)) ?_
        refine fj_val rfl rfl rfl (wn0 rfl) (fun R1 hR1 G => (y_move rfl)) ?_
        refine fj_val rfl rfl rfl (wn0 rfl) (fun R1 hR1 G => (y_sub64 rfl rfl (by (first | omega | (dsimp only; omega) | (simp; done) | (simp; omega)))).to (show Value.int .i64 (((e + 1 : Nat) : Int) - 1) = .int .i64 (e : Int) from congrArg _ (by omega))) ?_
        refine fj_nil ?_
        refine xj_rj rfl ?_
        try simp only [List.cons_append, List.nil_append, List.append_nil]
        refine rj_call (wn0 rfl) rfl Try.call32 rfl (ih b sj false (by omega) (by unfold big; omega)) (by (repeat (first|exact zN _|(apply zS;focus (repeat (first|exact zH _|apply zT)))))) (fun _ _ _ _ h => h.elim) ?_
        rintro r R2 L' hR2 ⟨y, cy, s4, bad4, rfl, hy, rfl, hs4, y1, y2, y3⟩
        obtain ⟨k1, n1, st1, l1, qq1, cap1, rfl, rfl, hb1, hl1⟩ := hy.inv
        try simp only [List.cons_append, List.nil_append]
        refine rj_xk (by (first | exact Hp.le_refl _ | assumption | exact Hp.le_trans ‹_› ‹_›)) (by (repeat (first|exact zR _|(apply zP;focus (repeat (first|exact zH _|apply zT)))|apply zD|exact zA _ _))) ?_
        refine xj_rj rfl ?_
        try simp only [List.cons_append, List.nil_append, List.append_nil]
        refine rj_buildSlice (sz := 4) (wn0 rfl) rfl Try.underlying60 Try.sizeOf62 Try.zeroValue62 rfl rfl rfl (by decide) (by decide) (fun b99 => ?_)
        refine rj_xk (by (first | exact Hp.le_refl _ | assumption | exact Hp.le_trans ‹_› ‹_›)) (by (repeat (first|exact zR _|(apply zP;focus (repeat (first|exact zH _|apply zT)))|apply zD|exact zA _ _))) ?_
        refine xj_nil ?_
        try simp only [List.cons_append, List.nil_append, List.append_nil]
        refine rj_append (sz := 4) (by_ := 56) ⟨Try.underlying60, _, _, rfl, rfl, rfl, rfl, rfl⟩ (wn0 rfl) rfl rfl rfl (by (repeat (first|exact zH _|apply zT));done) (src_slc Try.underlying60 (by (repeat (first|exact zH _|apply zT));done) (rep_one hy)) rfl (by (first | omega | (dsimp only; omega) | (simp; done) | (simp; omega))) (by simp only [maxLen]; omega) (fun v100 ho100 hh100 => ?_)
        rw [flat_snoc css, len_snoc ks (Nd.mk k1 n1 st1 l1)]
        refine rv0 rfl rfl rfl (y_fieldAddr (k := 3) Try.underlying62 rfl (n := 1) (by decide) Try.sizeOf60 rfl) ?_
        refine rj_store ⟨Try.isAgg60, Try.sizeOf60⟩ (wn0 rfl) rfl rfl (by (first | rfl | assumption | (apply cutV_one; assumption))) (by (repeat (first|exact zH _|apply zT));done) rfl rfl ?_
        refine rj_nil ?_
        refine hK38 _ _ _ ?_
        refine cj_env (eL 0 rfl (eL 1 rfl (eL 4 rfl (eL 6 rfl (eL 10 rfl (eL 11 rfl eN)))))) ?_
        refine cj_region ?_
        refine rv0 rfl rfl rfl (y_move rfl) ?_
        first | refine rv0 rfl rfl rfl (y_add64 rfl rfl (by (first | omega | (dsimp only; omega) | (simp; done) | (simp; omega)))) ?_ | refine rv0 rfl rfl rfl (y_add rfl rfl) ?_
        refine rv0 rfl rfl rfl (y_assign rfl) ?_
        refine rj_nil ?_
        refine ej_on (q' := roundK _ _ _ _ _ _ _) rfl ?_
        refine ej_round ((ks ++ [Nd.mk k1 n1 st1 l1], css ++ [[.int .i64 k1, .int .u64 ((n1 : Nat) : Int), .string (str st1), .slice qq1 l1.length cap1]], v100, s4, bad4, R2)) (⟨Hp.le_trans hr1 hR2, by dsimp only; rw [List.length_append]; simp; omega, (hk.mono hR2).snoc hy, by dsimp only; omega, fun hb => by dsimp only at hb ⊢; rw [List.length_append]; exact rdL_app (q1 rfl) (by simp; omega) (y2 rfl hb), fun hb => rdL_none (q1 rfl) (m' := m - ks.length - 1) (by omega) (y3 rfl hb)⟩) (by dsimp only; rw [List.length_append]; simp; omega) (eC rfl (eC rfl (eC rfl (eC rfl (eC rfl (Env.le_cons (Eq.trans rfl (congrArg some (by first | rfl | (exact congrArg (Value.int .i64) (by simp))))) eN)))))) rfl (by (repeat (first|exact zR _|(apply zP;focus (repeat (first|exact zH _|apply zT)))|apply zD|exact zA _ _)))
       ·(try simp only [dT, dF, nT, nF, tF, fT] at hc90); obtain rfl : badj = true := by simpa using hc90
        refine cj_exit ?_
        refine hK33 _ _ _ ?_
        refine cj_env (eL 4 rfl (eL 10 rfl eN)) ?_
        refine cj_seq (fun K39 hK39 => ?_)
        refine cj_region ?_
        refine rj_freeze (e := 62) (sz := 4) (n := ks.length) (v := v) (xs := css.flatten) (by (repeat (first|exact zH _|apply zT));done) (fun R2 hR2 hfr hxl => ?_)
        have hkb : ks.length ≤ big := by unfold big; omega
        obtain ⟨q, cap, rfl, hrl⟩ := (hk.mono hR2).repL hfr hkb
        first | refine rv0 rfl rfl rfl (y_loads_blk ⟨Try.isAgg62, Try.sizeOf62⟩ rfl (by (repeat (first|exact zH _|apply zT));done) rfl rfl) ?_ | refine rv0 rfl rfl rfl (y_loads_slc ⟨Try.isAgg62, Try.sizeOf62⟩ rfl (by (repeat (first|exact zH _|apply zT));done) rfl rfl (by (first | omega | (dsimp only; omega) | (simp; done) | (simp; omega)))) ?_
        refine rj_stores ⟨Try.isAgg62, Try.sizeOf62⟩ rfl (wn0 rfl) rfl rfl (by (first | (simp [Value.oneCell']; done) | (intro u hu; simp only [List.mem_cons, List.not_mem_nil, or_false] at hu; rcases hu with rfl | rfl | rfl | rfl <;> first | rfl | assumption))) (by (repeat (first|exact zH _|apply zT));done) (by (simp)) rfl ?_
        refine rj_nil ?_
        refine hK39 _ _ _ ?_
        refine cj_ret ?_
        refine hret _ _ _ ?_
        apply ej_ret Try.results32 (.cons (rv_cells ⟨Try.isAgg62, Try.sizeOf62⟩ rfl (by (repeat (first|exact zH _|apply zT));done) rfl rfl) .nil) _ [rB b sj true] (by first | exact Hp.le_refl _ | exact Hp.le_trans hr1 hR2) rfl
        case hp => exact ⟨.mk 2 0 [] ks, _, _, true, rfl, hrl.node (by simp [big]), rfl, by simp at hs2 ⊢; omega, fun _ => rfl, fun _ h => (by cases h), fun _ _ => by rw [hrd, q2 rfl]⟩
        case hS => (repeat (first|exact zR _|(apply zP;focus (repeat (first|exact zH _|apply zT)))|apply zD|exact zA _ _))
      ·try simp only [dT, dF, nT, nF, tF, fT] at hg84
       refine rj_skip (wn2 rfl rfl rfl rfl rfl) rfl rfl ?_
       refine rj_skip (wn2 rfl rfl rfl rfl rfl) rfl rfl ?_
       refine rj_skip (wn2 rfl rfl rfl rfl rfl) rfl rfl ?_
       refine rj_skip (wn2 rfl rfl rfl rfl rfl) rfl rfl ?_
       refine rj_skip (wn2 rfl rfl rfl rfl rfl) rfl rfl ?_
       refine rv0 rfl rfl rfl (y_pick_f rfl rfl) ?_
       refine rj_nil ?_
       refine hK36 _ _ _ ?_
       refine cj_env (eL 0 rfl (eL 1 rfl (eL 4 rfl (eL 6 rfl (eL 10 rfl (eL 11 rfl (eL 90 rfl eN))))))) ?_
       refine cj_cond_f rfl ?_
       refine cj_exit ?_
       refine hK33 _ _ _ ?_
       refine cj_env (eL 4 rfl (eL 10 rfl eN)) ?_
       refine cj_seq (fun K40 hK40 => ?_)
       refine cj_region ?_
       refine rj_freeze (e := 62) (sz := 4) (n := ks.length) (v := v) (xs := css.flatten) (by (repeat (first|exact zH _|apply zT));done) (fun R2 hR2 hfr hxl => ?_)
       have hkb : ks.length ≤ big := by unfold big; omega
       obtain ⟨q, cap, rfl, hrl⟩ := (hk.mono hR2).repL hfr hkb
       first | refine rv0 rfl rfl rfl (y_loads_blk ⟨Try.isAgg62, Try.sizeOf62⟩ rfl (by (repeat (first|exact zH _|apply zT));done) rfl rfl) ?_ | refine rv0 rfl rfl rfl (y_loads_slc ⟨Try.isAgg62, Try.sizeOf62⟩ rfl (by (repeat (first|exact zH _|apply zT));done) rfl rfl (by (first | omega | (dsimp only; omega) | (simp; done) | (simp; omega)))) ?_
       refine rj_stores ⟨Try.isAgg62, Try.sizeOf62⟩ rfl (wn0 rfl) rfl rfl (by (first | (simp [Value.oneCell']; done) | (intro u hu; simp only [List.mem_cons, List.not_mem_nil, or_false] at hu; rcases hu with rfl | rfl | rfl | rfl <;> first | rfl | assumption))) (by (repeat (first|exact zH _|apply zT));done) (by (simp)) rfl ?_
       refine rj_nil ?_
       refine hK40 _ _ _ ?_
       refine cj_ret ?_
       refine hret _ _ _ ?_
       apply ej_ret Try.results32 (.cons (rv_cells ⟨Try.isAgg62, Try.sizeOf62⟩ rfl (by (repeat (first|exact zH _|apply zT));done) rfl rfl) .nil) _ [rB b sj badj] (by first | exact Hp.le_refl _ | exact Hp.le_trans hr1 hR2) rfl
       case hp =>
        refine ⟨.mk 2 0 [] ks, _, _, badj, rfl, hrl.node (by simp [big]), rfl, by simp at hs2 ⊢; omega, fun h => (by cases h), fun _ h => ?_, fun _ h => by rw [hrd, q2 h]⟩
        rw [hrd, q1 h, show m - ks.length = 0 by omega]; simp [rdL]
       case hS => (repeat (first|exact zR _|(apply zP;focus (repeat (first|exact zH _|apply zT)))|apply zD|exact zA _ _))
     ·try simp only [dT, dF, nT, nF, tF, fT] at hc77
      refine cj_skip ?_
      refine ej_join hJ27 ((s2, false)) (⟨by dsimp only; omega, fun _ => by rw [rdM, hz]; (try simp at hc27 hc70 hc77); simp [hc27, hc70, hc77]⟩) (eC rfl (eC rfl eN)) rfl (by (repeat (first|exact zR _|(apply zP;focus (repeat (first|exact zH _|apply zT)))|apply zD|exact zA _ _)))
theorem rnode_t (d : Nat) : RNodeT d := by
  induction d with
  | zero => exact rnode_zero
  | succ e ih => exact rnode_succ e ih
/-- bytes as a node: all of them -/
def readM (s : List UInt8) : Nd × Bool := if s.length > 16777216 then (ndZero, false) else match rdM 20 s with
  | some (x, []) => (x, true)
  | _ => (ndZero, false)
theorem readM_none {s : List UInt8} (h : ¬ s.length > 16777216 → rdM 20 s = none) : readM s = (ndZero, false) := by
  unfold readM
  by_cases hl : s.length > 16777216
  · rw [if_pos hl]
  · rw [if_neg hl, h hl]
theorem readM_rest {s s' : List UInt8} {y : Nd} (h : ¬ s.length > 16777216 → rdM 20 s = some (y, s')) (hne : ¬ s' = []) : readM s = (ndZero, false) := by
  unfold readM
  by_cases hl : s.length > 16777216
  · rw [if_pos hl]
  · rw [if_neg hl, h hl]
    cases s' with
    | nil => exact absurd rfl hne
    | cons u t => rfl
theorem readM_some {s : List UInt8} {y : Nd} (hl : ¬ s.length > 16777216) (h : rdM 20 s = some (y, [])) : readM s = (y, true) := by
  unfold readM
  rw [if_neg hl, h]
theorem read_t {R : Hp} (s : List UInt8) (hs : s.length ≤ big) : Tri Try.prog 19 [.string (str s)] R []
    (fun r R' L' => ∃ cy, r = .tuple #[.agg ⟨cy⟩, .bool (readM s).2] ∧ RepN R' (readM s).1 cy ∧ L' = []) := by
  have hbg : s.length ≤ 1000000000000 := hs
  refine tri_of Try.func19 rfl Try.ntmps19 rfl (fun σ F Q hret hend hpan => ?_)
  try simp only [List.cons_append, List.nil_append]
  refine cj_env (eL 0 rfl eN) ?_
  refine cj_seq (fun K1 hK1 => ?_)
  refine cj_region ?_
  refine rj_alloc (wn0 rfl) rfl Try.zeroValue62 rfl (fun b2 => ?_)
  refine rv0 rfl rfl rfl (y_assign rfl) ?_
  refine rj_nil ?_
  refine hK1 _ _ _ ?_
  refine cj_seq (fun K2 hK2 => ?_)
  refine cj_region ?_
  refine rv0 rfl rfl rfl (y_move rfl) ?_
  refine rv0 rfl rfl rfl (y_move rfl) ?_
  refine rv0 rfl rfl rfl (y_slen Try.underlying9 rfl) ?_
  refine rv0 rfl rfl rfl (y_gtr rfl rfl) ?_
  refine rv0 rfl rfl rfl (y_build (cells := [_, _]) [(0, 1), (1, 1)] Try.underlying77 Try.zeroValue77 (fun _ => rfl) rfl rfl) ?_
  refine rj_box (wn0 rfl) rfl rfl rfl (fun br => ?_)
  refine rv0 rfl rfl rfl (y_assign rfl) ?_
  refine rj_nil ?_
  refine hK2 _ _ _ ?_
  refine cj_env (eL 2 rfl (eL 4 rfl eN)) ?_
  refine cj_seq (fun K3 hK3 => ?_)
  refine cj_region ?_
  refine rv0 rfl rfl rfl (y_move rfl) ?_
  refine rj_call (wn0 rfl) rfl Try.call32 rfl (rnode_t 20 br s (decide ((s.length : Int) > 16777216)) (by decide) hs) (by (repeat (first|exact zN _|(apply zS;focus (repeat (first|exact zH _|apply zT)))))) (fun _ _ _ _ h => h.elim) ?_
  rintro r R' L' hR ⟨y, cy, s', bad', rfl, hy, rfl, hs', y1, y2, y3⟩
  obtain ⟨k1, n1, st1, l1, qq1, cap1, rfl, rfl, hb1, hl1⟩ := hy.inv
  try simp only [List.cons_append, List.nil_append]
  refine rj_alloc (wn0 rfl) rfl Try.zeroValue62 rfl (fun b5 => ?_)
  refine rj_stores ⟨Try.isAgg62, Try.sizeOf62⟩ rfl (wn0 rfl) rfl rfl (by (first | (simp [Value.oneCell']; done) | (intro u hu; simp only [List.mem_cons, List.not_mem_nil, or_false] at hu; rcases hu with rfl | rfl | rfl | rfl <;> first | rfl | assumption))) (by (repeat (first|exact zH _|apply zT));done) (by (simp)) rfl ?_
  refine rj_nil ?_
  refine hK3 _ _ _ ?_
  refine cj_seq (fun K4 hK4 => ?_)
  refine cj_seq (fun K5 hK5 => ?_)
  refine cj_region ?_
  refine rv0 rfl rfl rfl (y_move rfl) ?_
  refine rv0 rfl rfl rfl (y_nilCheck rfl) ?_
  refine rv0 rfl rfl rfl (y_fieldAddr (k := 1) Try.underlying77 rfl (n := 1) (by decide) Try.sizeOf4 rfl) ?_
  first | refine rv0 rfl rfl rfl (y_load ⟨Try.isAgg4, Try.sizeOf4⟩ rfl (by (repeat (first|exact zH _|apply zT));done) rfl) ?_ | refine rv0 rfl rfl rfl (y_load_slc ⟨Try.isAgg4, Try.sizeOf4⟩ rfl (by (repeat (first|exact zH _|apply zT));done) rfl) ?_
  refine rv0 rfl rfl rfl (y_move rfl) ?_
  refine rj_part 18 rfl (fun hg18 => ?_) (fun hg18 => ?_)
  ·(try simp only [dT, dF, nT, nF, tF, fT] at hg18); obtain rfl : bad' = true := by simpa using hg18
   refine rj_skip (wn2 rfl rfl rfl rfl rfl) rfl rfl ?_
   refine rj_skip (wn2 rfl rfl rfl rfl rfl) rfl rfl ?_
   refine rj_skip (wn2 rfl rfl rfl rfl rfl) rfl rfl ?_
   refine rj_skip (wn2 rfl rfl rfl rfl rfl) rfl rfl ?_
   refine rj_skip (wn2 rfl rfl rfl rfl rfl) rfl rfl ?_
   refine rv0 rfl rfl rfl (y_pick_t rfl rfl) ?_
   refine rj_nil ?_
   refine hK5 _ _ _ ?_
   refine cj_env (eL 2 rfl (eL 5 rfl (eL 24 rfl eN))) ?_
   refine cj_cond_t rfl ?_
   refine cj_seq (fun K6 hK6 => ?_)
   refine cj_region ?_
   refine rv0 rfl rfl rfl (y_build (cells := [_, _, _, _]) [(0, 1), (1, 1), (2, 1), (3, 1)] Try.underlying62 Try.zeroValue62 (fun _ => rfl) rfl rfl) ?_
   refine rj_stores ⟨Try.isAgg62, Try.sizeOf62⟩ rfl (wn0 rfl) rfl rfl (by (first | (simp [Value.oneCell']; done) | (intro u hu; simp only [List.mem_cons, List.not_mem_nil, or_false] at hu; rcases hu with rfl | rfl | rfl | rfl <;> first | rfl | assumption))) (by (repeat (first|exact zH _|apply zT));done) (by (simp)) rfl ?_
   refine rv0 rfl rfl rfl (y_assign rfl) ?_
   refine rj_nil ?_
   refine hK6 _ _ _ ?_
   refine cj_env (eL 2 rfl (eL 3 rfl eN)) ?_
   refine cj_ret ?_
   refine hret _ _ _ ?_
   apply ej_ret Try.results19 (.cons (rv_cells ⟨Try.isAgg62, Try.sizeOf62⟩ rfl (by (repeat (first|exact zH _|apply zT));done) rfl rfl) (.cons (rv_tmp rfl) .nil)) _ [] (by (first | exact Hp.le_refl _ | assumption | exact Hp.le_trans ‹_› ‹_›)) rfl
   case hp => rw [readM_none (fun hl => y3 (decide_eq_false (by omega)) rfl)]; exact ⟨_, rfl, zero_rep R', rfl⟩
   case hS => (repeat (first|exact zR _|(apply zP;focus (repeat (first|exact zH _|apply zT)))|apply zD|exact zA _ _))
  ·(try simp only [dT, dF, nT, nF, tF, fT] at hg18); obtain rfl : bad' = false := by simpa using hg18
   refine rj_val (wn1 rfl rfl rfl rfl) rfl rfl (y_move rfl) ?_
   refine rj_val (wn1 rfl rfl rfl rfl) rfl rfl (y_nilCheck rfl) ?_
   refine rj_val (wn1 rfl rfl rfl rfl) rfl rfl (y_fieldAddr (k := 0) Try.underlying77 rfl (n := 1) (by decide) Try.sizeOf9 rfl) ?_
   first | refine rj_val (wn1 rfl rfl rfl rfl) rfl rfl (y_load ⟨Try.isAgg9, Try.sizeOf9⟩ rfl (by (repeat (first|exact zH _|apply zT));done) rfl) ?_ | refine rj_val (wn1 rfl rfl rfl rfl) rfl rfl (y_load_slc ⟨Try.isAgg9, Try.sizeOf9⟩ rfl (by (repeat (first|exact zH _|apply zT));done) rfl) ?_
   refine rj_val (wn1 rfl rfl rfl rfl) rfl rfl (y_sneq rfl rfl) ?_
   refine rv0 rfl rfl rfl (y_pick_f rfl rfl) ?_
   refine rj_nil ?_
   refine hK5 _ _ _ ?_
   refine cj_env (eL 2 rfl (eL 5 rfl (eL 24 rfl eN))) ?_
   refine cj_cond rfl (fun hc24 => ?_) (fun hc24 => ?_)
   ·(try simp only [dT, dF, nT, nF, tF, fT] at hc24); have hne : ¬ s' = [] := by simpa using hc24
    refine cj_seq (fun K8 hK8 => ?_)
    refine cj_region ?_
    refine rv0 rfl rfl rfl (y_build (cells := [_, _, _, _]) [(0, 1), (1, 1), (2, 1), (3, 1)] Try.underlying62 Try.zeroValue62 (fun _ => rfl) rfl rfl) ?_
    refine rj_stores ⟨Try.isAgg62, Try.sizeOf62⟩ rfl (wn0 rfl) rfl rfl (by (first | (simp [Value.oneCell']; done) | (intro u hu; simp only [List.mem_cons, List.not_mem_nil, or_false] at hu; rcases hu with rfl | rfl | rfl | rfl <;> first | rfl | assumption))) (by (repeat (first|exact zH _|apply zT));done) (by (simp)) rfl ?_
    refine rv0 rfl rfl rfl (y_assign rfl) ?_
    refine rj_nil ?_
    refine hK8 _ _ _ ?_
    refine cj_env (eL 2 rfl (eL 3 rfl eN)) ?_
    refine cj_ret ?_
    refine hret _ _ _ ?_
    apply ej_ret Try.results19 (.cons (rv_cells ⟨Try.isAgg62, Try.sizeOf62⟩ rfl (by (repeat (first|exact zH _|apply zT));done) rfl rfl) (.cons (rv_tmp rfl) .nil)) _ [] (by (first | exact Hp.le_refl _ | assumption | exact Hp.le_trans ‹_› ‹_›)) rfl
    case hp => rw [readM_rest (fun hl => y2 (decide_eq_false (by omega)) rfl) hne]; exact ⟨_, rfl, zero_rep R', rfl⟩
    case hS => (repeat (first|exact zR _|(apply zP;focus (repeat (first|exact zH _|apply zT)))|apply zD|exact zA _ _))
   ·(try simp only [dT, dF, nT, nF, tF, fT] at hc24); have hne : s' = [] := by simpa using hc24
    refine cj_skip ?_
    refine hK4 _ _ _ ?_
    refine cj_seq (fun K9 hK9 => ?_)
    refine cj_region ?_
    first | refine rv0 rfl rfl rfl (y_loads_blk ⟨Try.isAgg62, Try.sizeOf62⟩ rfl (by (repeat (first|exact zH _|apply zT));done) rfl rfl) ?_ | refine rv0 rfl rfl rfl (y_loads_slc ⟨Try.isAgg62, Try.sizeOf62⟩ rfl (by (repeat (first|exact zH _|apply zT));done) rfl rfl (by (first | omega | (dsimp only; omega) | (simp; done) | (simp; omega)))) ?_
    refine rj_stores ⟨Try.isAgg62, Try.sizeOf62⟩ rfl (wn0 rfl) rfl rfl (by (first | (simp [Value.oneCell']; done) | (intro u hu; simp only [List.mem_cons, List.not_mem_nil, or_false] at hu; rcases hu with rfl | rfl | rfl | rfl <;> first | rfl | assumption))) (by (repeat (first|exact zH _|apply zT));done) (by (simp)) rfl ?_
    refine rv0 rfl rfl rfl (y_assign rfl) ?_
    refine rj_nil ?_
    refine hK9 _ _ _ ?_
    refine cj_env (eL 2 rfl (eL 3 rfl eN)) ?_
    refine cj_ret ?_
    refine hret _ _ _ ?_
    apply ej_ret Try.results19 (.cons (rv_cells ⟨Try.isAgg62, Try.sizeOf62⟩ rfl (by (repeat (first|exact zH _|apply zT));done) rfl rfl) (.cons (rv_tmp rfl) .nil)) _ [] (by (first | exact Hp.le_refl _ | assumption | exact Hp.le_trans ‹_› ‹_›)) rfl
    case hp => subst hne; rw [readM_some (by by_cases hl : (s.length : Int) > 16777216; have := y1 (decide_eq_true hl); cases this; omega) (by by_cases hl : (s.length : Int) > 16777216; have := y1 (decide_eq_true hl); cases this; exact y2 (decide_eq_false hl) rfl)]; exact ⟨_, rfl, hy, rfl⟩
    case hS => (repeat (first|exact zR _|(apply zP;focus (repeat (first|exact zH _|apply zT)))|apply zD|exact zA _ _))
end V
end Go.Proofs.Ytcgjlhhfldkdaaa
