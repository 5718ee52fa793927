/- A log, opened over what a disk has. -/
import Derived.Test.YtcgjlhhfldkdaaaT8d
set_option linter.unusedSimpArgs false
set_option linter.unusedVariables false
set_option maxRecDepth 100000
namespace Go.Proofs.Ytcgjlhhfldkdaaa
open Go.RowKit
namespace V
set_option maxHeartbeats 4000000
theorem or_hi (A B s : Nat) (hA : A < 2 ^ s) (h : A + B * 2 ^ s < 9223372036854775808) : bitOr .i64 ((B * 2 ^ s : Nat) : Int) ((A : Nat) : Int) = ((A + B * 2 ^ s : Nat) : Int) := by
  rw [← or_add A B s hA h]
  unfold bitOr
  rw [BitVec.or_comm]
theorem be4_or (l : Bs) : bitOr .i64 (bitOr .i64 (bitOr .i64 (IntKind.i64.wrap (byteAt l 0 * 2 ^ min (24 : Int).toNat IntKind.i64.bits)) (IntKind.i64.wrap (byteAt l 1 * 2 ^ min (16 : Int).toNat IntKind.i64.bits))) (IntKind.i64.wrap (byteAt l 2 * 2 ^ min (8 : Int).toNat IntKind.i64.bits))) (byteAt l 3) = ((be4N l : Nat) : Int) := by
  have e : ∀ i : Nat, byteAt l (i : Int) = (((l.getD i 0).toNat : Nat) : Int) := fun i => rfl
  have b : ∀ i : Nat, (l.getD i 0).toNat < 256 := fun i => (l.getD i 0).toNat_lt
  have b0 := b 0
  have b1 := b 1
  have b2 := b 2
  have b3 := b 3
  rw [show byteAt l 0 = (((l.getD 0 0).toNat : Nat) : Int) from rfl, show byteAt l 1 = (((l.getD 1 0).toNat : Nat) : Int) from rfl, show byteAt l 2 = (((l.getD 2 0).toNat : Nat) : Int) from rfl, show byteAt l 3 = (((l.getD 3 0).toNat : Nat) : Int) from rfl]
  unfold be4N
  generalize (l.getD 0 0).toNat = x0 at *
  generalize (l.getD 1 0).toNat = x1 at *
  generalize (l.getD 2 0).toNat = x2 at *
  generalize (l.getD 3 0).toNat = x3 at *
  rw [shl_nat x0 24 24 rfl (by decide) (by omega), shl_nat x1 16 16 rfl (by decide) (by omega), shl_nat x2 8 8 rfl (by decide) (by omega)]
  rw [or_hi (x1 * 2 ^ 16) x0 24 (by omega) (by omega)]
  rw [show x1 * 2 ^ 16 + x0 * 2 ^ 24 = (x1 + x0 * 256) * 2 ^ 16 by omega, or_hi (x2 * 2 ^ 8) (x1 + x0 * 256) 16 (by omega) (by omega)]
  rw [show x2 * 2 ^ 8 + (x1 + x0 * 256) * 2 ^ 16 = (x2 + (x1 + x0 * 256) * 256) * 2 ^ 8 by omega, or_hi x3 (x2 + (x1 + x0 * 256) * 256) 8 (by omega) (by omega)]
  congr 1
  omega
def DK.open (D : DK) (rs : List Rec) (tail : Bs) : Int × DK := if D.down = true then (3, D) else if tail = [] then (0, D) else D.swap (recsB rs)
theorem recsB_cons (r : Rec) (l : List Rec) : recsB (r :: l) = r.bytes ++ recsB l := by simp [recsB]
theorem plays_nil {g h : LG} (p : Plays g [] h) : g = h := by cases p; rfl
theorem rest_nil {rs : List Rec} {rest tail : Bs} {g h : LG} (hp : Plays g rs h) (hr : rest = recsB rs ++ tail) (ht : rest.length < 4 ∨ be4N rest > rest.length - 4) : rs = [] := by
  cases hp with
  | nil => rfl
  | @cons _ _ r l h1 h2 h3 h4 =>
    exfalso
    have e : rest = be4 (wr r.nd).length ++ (wr r.nd ++ (recsB l ++ tail)) := by rw [hr, recsB_cons, Rec.bytes]; simp
    have e2 : be4N rest = (wr r.nd).length := by rw [e, be4_N (by omega)]
    have e3 : rest.length = 4 + (wr r.nd).length + (recsB l ++ tail).length := by rw [e]; simp [be4_len]; omega
    omega
theorem rest_cons {rs : List Rec} {rest tail : Bs} {g h : LG} (hp : Plays g rs h) (hr : rest = recsB rs ++ tail) (ht : torn tail) (h4 : 4 ≤ rest.length) (hn : be4N rest ≤ rest.length - 4) :
    ∃ r rs3, rs = r :: rs3 ∧ g.ok ∧ r.may g ∧ (wr r.nd).length ≤ 16777216 ∧ Plays (g.play r) rs3 h := by
  cases hp with
  | nil _ => exact absurd (show torn rest by rw [hr]; exact ht) (by unfold torn; omega)
  | cons h1 h2 h3 h4 => exact ⟨_, _, rfl, h1, h2, h3, h4⟩
theorem open_t {R : Hp} (bd : Nat) (u : Value) (D : DK) (m : Nat) (rs : List Rec) (tail : Bs) (h : LG) (hD : D.ok m) (hm : m ≤ 900000000) (hb : D.b = recsB rs ++ tail) (ht : torn tail) (hp : Plays LG.new rs h) :
    Tri Try.prog 7 [.pointer (some ⟨bd, 0, none⟩)] R [dkB bd u D, dkS u D] (fun x R' L' => ∃ p u', x = tupOf [p, .int .i64 (D.open rs tail).1] ∧
      ((p = .pointer none ∧ (D.open rs tail).1 ≠ 0 ∧ L' = [dkB bd u' (D.open rs tail).2, dkS u' (D.open rs tail).2]) ∨
       (∃ b va, p = .pointer (some ⟨b, 0, none⟩) ∧ (D.open rs tail).1 = 0 ∧ FrX entE R' h.all va ∧ L' = [lgB b (some ⟨bd, 0, none⟩) va h, dkB bd u' (D.open rs tail).2, dkS u' (D.open rs tail).2]))) := by
  have hbl := hD.2.1
  obtain ⟨B, hB⟩ : ∃ B, B = D.b := ⟨_, rfl⟩
  have hBl : B.length ≤ 900000000 := by rw [hB]; omega
  refine tri_of Try.func7 rfl Try.ntmps7 rfl (fun σ F Q hret hend hpan => ?_)
  try simp only [List.cons_append, List.nil_append]
  refine cj_env (eL 0 rfl eN) ?_
  refine cj_seq (fun K1 hK1 => ?_)
  refine cj_region ?_
  refine rv0 rfl rfl rfl (y_assign rfl) ?_
  refine rv0 rfl rfl rfl (y_assign rfl) ?_
  refine rj_nil ?_
  refine hK1 _ _ _ ?_
  refine cj_seq (fun K2 hK2 => ?_)
  refine cj_region ?_
  refine rv0 rfl rfl rfl (y_move rfl) ?_
  refine rv0 rfl rfl rfl (y_call Try.call18 rfl (read_q bd u D) (by (repeat (first|exact zN _|(apply zS;focus (repeat (first|exact zH _|apply zT))))))) ?_
  refine rv0 rfl rfl rfl (y_move rfl) ?_
  refine rv0 rfl rfl rfl (y_extract rfl rfl) ?_
  refine rv0 rfl rfl rfl (y_extract rfl rfl) ?_
  refine rv0 rfl rfl rfl (y_assign rfl) ?_
  refine rv0 rfl rfl rfl (y_assign rfl) ?_
  refine rj_nil ?_
  refine hK2 _ _ _ ?_
  refine cj_env (eL 0 rfl (eL 4 rfl (eL 5 rfl eN))) ?_
  refine cj_seq (fun K3 hK3 => ?_)
  refine cj_seq (fun K4 hK4 => ?_)
  refine cj_region ?_
  refine rv0 rfl rfl rfl (y_move rfl) ?_
  refine rv0 rfl rfl rfl (y_neq rfl rfl) ?_
  refine rj_nil ?_
  refine hK4 _ _ _ ?_
  refine cj_cond rfl (fun hc19 => ?_) (fun hc19 => ?_)
  ·have f0 : D.down = true := by cases hdn : D.down with | true => rfl | false => simp [hdn] at hc19
   have ho : D.open rs tail = (3, D) := by unfold DK.open; rw [if_pos f0]
   simp only [f0, ite_true]
   refine cj_seq (fun K6 hK6 => ?_)
   refine cj_region ?_
   refine rv0 rfl rfl rfl (y_move rfl) ?_
   refine rv0 rfl rfl rfl (y_assign rfl) ?_
   refine rv0 rfl rfl rfl (y_assign rfl) ?_
   refine rj_nil ?_
   refine hK6 _ _ _ ?_
   refine cj_env (eL 2 rfl (eL 3 rfl eN)) ?_
   refine cj_ret ?_
   refine hret _ _ _ ?_
   apply ej_ret Try.results7 (.cons (rv_tmp rfl) (.cons (rv_tmp rfl) .nil)) _ [dkB bd u D, dkS u D] (by first | exact Hp.le_refl _ | exact hR3) rfl
   case hp => rw [ho]; exact ⟨_, u, rfl, .inl ⟨rfl, (by decide : (3 : Int) ≠ 0), rfl⟩⟩
   case hS => (repeat (first|exact zR _|(apply zP;focus (repeat (first|exact zH _|apply zT)))|apply zD|exact zA _ _))
  ·have f0 : D.down = false := by cases hdn : D.down with | false => rfl | true => simp [hdn] at hc19
   simp only [f0, Bool.false_eq_true, ite_false]
   rw [← hB]
   refine cj_skip ?_
   refine hK3 _ _ _ ?_
   refine cj_env (eL 0 rfl (eL 4 rfl eN)) ?_
   refine cj_seq (fun K7 hK7 => ?_)
   refine cj_region ?_
   refine rv0 rfl rfl rfl (y_move rfl) ?_
   refine rv0 rfl rfl rfl (y_build (cells := [_, _, _, _, _, _, _, _]) [(0, 1), (1, 1), (2, 1), (3, 1), (4, 1), (5, 1), (6, 1), (7, 1)] Try.underlying58 Try.zeroValue58 (fun _ => rfl) rfl rfl) ?_
   refine rj_box (wn0 rfl) rfl rfl rfl (fun bl => ?_)
   refine rv0 rfl rfl rfl (y_assign rfl) ?_
   refine rj_nil ?_
   refine hK7 _ _ _ ?_
   refine cj_env (eL 0 rfl (eL 4 rfl (eL 6 rfl eN))) ?_
   refine cj_seq (fun K8 hK8 => ?_)
   refine cj_region ?_
   refine rv0 rfl rfl rfl (y_assign rfl) ?_
   refine rj_nil ?_
   refine hK8 _ _ _ ?_
   refine cj_seq (fun K9 hK9 => ?_)
   have hJ15 : ∀ (x2 : Value × Hp × Nat), R.le x2.2.1 ∧ FrX entE x2.2.1 h.all x2.1 ∧ x2.2.2 + tail.length = B.length → EJ ⟨Try.prog, 88, σ⟩ K9 [(0, .pointer (some ⟨bd, 0, none⟩)), (4, .string (str B)), (6, .pointer (some ⟨bl, 0, none⟩)), (7, .int .i64 (x2.2.2 : Int))] x2.2.1 (lgB bl (some ⟨bd, 0, none⟩) x2.1 h :: dkB bd u D :: dkS u D :: F) := by
    rintro ⟨va, R3, good⟩ ⟨hR3, hva, hgood⟩
    try dsimp only
    dsimp only at hR3 hva hgood
    refine hK9 _ _ _ ?_
    refine cj_seq (fun K10 hK10 => ?_)
    refine cj_seq (fun K11 hK11 => ?_)
    refine cj_region ?_
    refine rv0 rfl rfl rfl (y_move rfl) ?_
    refine rv0 rfl rfl rfl (y_move rfl) ?_
    refine rv0 rfl rfl rfl (y_slen Try.underlying9 rfl) ?_
    refine rv0 rfl rfl rfl (y_lss rfl rfl) ?_
    refine rj_nil ?_
    refine hK11 _ _ _ ?_
    refine cj_env (eL 0 rfl (eL 4 rfl (eL 6 rfl (eL 7 rfl (eL 78 rfl eN))))) ?_
    refine cj_cond rfl (fun hc78 => ?_) (fun hc78 => ?_)
    ·have f5 : ¬ tail = [] := by rintro rfl; (try simp at hc78); simp at hgood; omega
     have f6 : B.take good = recsB rs := by rw [hB, hb] at hgood ⊢; rw [List.length_append] at hgood; rw [List.take_append_of_le_length (by omega), List.take_of_length_le (by omega)]
     have f7 : D.open rs tail = D.swap (recsB rs) := by unfold DK.open; rw [if_neg (by simp [f0]), if_neg f5]
     have f8 : (recsB rs).length ≤ 900000000 := by rw [← f6, List.length_take]; omega
     refine cj_seq (fun K13 hK13 => ?_)
     refine cj_region ?_
     refine rv0 rfl rfl rfl (y_move rfl) ?_
     refine rv0 rfl rfl rfl (y_move rfl) ?_
     refine rv0 rfl rfl rfl (y_move rfl) ?_
     refine rv0 rfl rfl rfl ((Yld.to (u := .string (str (recsB rs))) (y_slice_s_hi Try.underlying9 rfl rfl (by omega)) (by rw [← f6]; rfl))) ?_
     refine rj_call (wn0 rfl) rfl Try.call21 rfl (swap_t bd u D m hD (recsB rs) (by omega)) (by (repeat (first|exact zN _|(apply zS;focus (repeat (first|exact zH _|apply zT)))))) (fun _ _ _ _ h => h.elim) ?_
     rintro x R6 L' hR6 ⟨rfl, rfl, u2, rfl⟩
     try simp only [List.cons_append, List.nil_append]
     refine rv0 rfl rfl rfl (y_assign rfl) ?_
     refine rj_nil ?_
     refine hK13 _ _ _ ?_
     refine cj_env (eL 6 rfl (eL 12 rfl eN)) ?_
     refine cj_seq (fun K14 hK14 => ?_)
     refine cj_region ?_
     refine rv0 rfl rfl rfl (y_move rfl) ?_
     refine rv0 rfl rfl rfl (y_neq rfl rfl) ?_
     refine rj_nil ?_
     refine hK14 _ _ _ ?_
     refine cj_cond rfl (fun hc85 => ?_) (fun hc85 => ?_)
     ·have f9 : ¬ (D.swap (recsB rs)).1 = 0 := by simpa using hc85
      refine cj_seq (fun K16 hK16 => ?_)
      refine cj_region ?_
      refine rv0 rfl rfl rfl (y_move rfl) ?_
      refine rv0 rfl rfl rfl (y_assign rfl) ?_
      refine rv0 rfl rfl rfl (y_assign rfl) ?_
      refine rj_nil ?_
      refine hK16 _ _ _ ?_
      refine cj_env (eL 2 rfl (eL 3 rfl eN)) ?_
      refine cj_ret ?_
      refine hret _ _ _ ?_
      apply ej_ret Try.results7 (.cons (rv_tmp rfl) (.cons (rv_tmp rfl) .nil)) _ [dkB bd u2 (D.swap (recsB rs)).2, dkS u2 (D.swap (recsB rs)).2] (by first | exact Hp.le_refl _ | exact hR3) rfl
      case hp => rw [f7]; exact ⟨_, u2, rfl, .inl ⟨rfl, f9, rfl⟩⟩
      case hS => (repeat (first|exact zR _|(apply zP;focus (repeat (first|exact zH _|apply zT)))|apply zD|exact zA _ _))
     ·have f9 : (D.swap (recsB rs)).1 = 0 := by simpa using hc85
      refine cj_skip ?_
      refine hK10 _ _ _ ?_
      refine cj_env (eL 6 rfl eN) ?_
      refine cj_seq (fun K17 hK17 => ?_)
      refine cj_region ?_
      refine rv0 rfl rfl rfl (y_move rfl) ?_
      refine rv0 rfl rfl rfl (y_assign rfl) ?_
      refine rv0 rfl rfl rfl (y_assign rfl) ?_
      refine rj_nil ?_
      refine hK17 _ _ _ ?_
      refine cj_ret ?_
      refine hret _ _ _ ?_
      apply ej_ret Try.results7 (.cons (rv_tmp rfl) (.cons (rv_tmp rfl) .nil)) _ [lgB bl (some ⟨bd, 0, none⟩) va h, dkB bd u2 (D.swap (recsB rs)).2, dkS u2 (D.swap (recsB rs)).2] (by first | exact Hp.le_refl _ | exact hR3) rfl
      case hp => rw [f7]; refine ⟨_, u2, by rw [f9], .inr ⟨bl, va, rfl, f9, hva, rfl⟩⟩
      case hS => (repeat (first|exact zR _|(apply zP;focus (repeat (first|exact zH _|apply zT)))|apply zD|exact zA _ _))
    ·have f5 : tail = [] := by (try simp at hc78); exact List.eq_nil_of_length_eq_zero (by omega)
     have f7 : D.open rs tail = (0, D) := by unfold DK.open; rw [if_neg (by simp [f0]), if_pos f5]
     refine cj_skip ?_
     refine hK10 _ _ _ ?_
     refine cj_env (eL 6 rfl eN) ?_
     refine cj_seq (fun K18 hK18 => ?_)
     refine cj_region ?_
     refine rv0 rfl rfl rfl (y_move rfl) ?_
     refine rv0 rfl rfl rfl (y_assign rfl) ?_
     refine rv0 rfl rfl rfl (y_assign rfl) ?_
     refine rj_nil ?_
     refine hK18 _ _ _ ?_
     refine cj_ret ?_
     refine hret _ _ _ ?_
     apply ej_ret Try.results7 (.cons (rv_tmp rfl) (.cons (rv_tmp rfl) .nil)) _ [lgB bl (some ⟨bd, 0, none⟩) va h, dkB bd u D, dkS u D] (by first | exact Hp.le_refl _ | exact hR3) rfl
     case hp => rw [f7]; exact ⟨_, u, rfl, .inr ⟨bl, va, rfl, rfl, hva, rfl⟩⟩
     case hS => (repeat (first|exact zR _|(apply zP;focus (repeat (first|exact zH _|apply zT)))|apply zD|exact zA _ _))
   refine cj_seq (fun K19 hK19 => ?_)
   refine cj_region ?_
   refine rv0 rfl rfl rfl (y_move rfl) ?_
   refine rv0 rfl rfl rfl (y_assign rfl) ?_
   refine rj_nil ?_
   refine hK19 _ _ _ ?_
   refine cj_block ?_
   refine cj_env (E' := (fun (x1 : LG × List Rec × Value × Hp × Bs × Nat) => [(0, .pointer (some ⟨bd, 0, none⟩)), (4, .string (str B)), (6, .pointer (some ⟨bl, 0, none⟩)), (7, .int .i64 (x1.2.2.2.2.2 : Int)), (8, .string (str x1.2.2.2.2.1))]) (LG.new, rs, .slice none 0 0, R, B, 0)) (eC rfl (eC rfl (eC rfl (eC rfl (eC rfl eN))))) ?_
   refine cj_sub (M := (fun (x1 : LG × List Rec × Value × Hp × Bs × Nat) => lgB bl (some ⟨bd, 0, none⟩) x1.2.2.1 x1.1 :: dkB bd u D :: dkS u D :: F) (LG.new, rs, .slice none 0 0, R, B, 0)) (by (repeat (first|exact zR _|(apply zP;focus (repeat (first|exact zH _|apply zT)))|apply zD|exact zA _ _))) ?_
   refine cj_loop (fun (x1 : LG × List Rec × Value × Hp × Bs × Nat) => [(0, .pointer (some ⟨bd, 0, none⟩)), (4, .string (str B)), (6, .pointer (some ⟨bl, 0, none⟩)), (7, .int .i64 (x1.2.2.2.2.2 : Int)), (8, .string (str x1.2.2.2.2.1))]) (fun (x1 : LG × List Rec × Value × Hp × Bs × Nat) => x1.2.2.2.1) (fun (x1 : LG × List Rec × Value × Hp × Bs × Nat) => lgB bl (some ⟨bd, 0, none⟩) x1.2.2.1 x1.1 :: dkB bd u D :: dkS u D :: F) (fun (x1 : LG × List Rec × Value × Hp × Bs × Nat) => Plays x1.1 x1.2.1 h ∧ x1.2.2.2.2.1 = recsB x1.2.1 ++ tail ∧ FrX entE x1.2.2.2.1 x1.1.all x1.2.2.1 ∧ R.le x1.2.2.2.1 ∧ x1.2.2.2.2.2 + x1.2.2.2.2.1.length = B.length) (fun (x1 : LG × List Rec × Value × Hp × Bs × Nat) => x1.2.2.2.2.1.length) (LG.new, rs, .slice none 0 0, R, B, 0) (⟨hp, by rw [hB]; exact hb, FrX.nil, Hp.le_refl _, by simp⟩) ?_
   rintro ⟨g, rs2, va, R3, rest, good⟩ ⟨hpl, hrest, hva, hR3, hgood⟩
   try dsimp only
   dsimp only at hpl hrest hva hR3 hgood
   refine cj_seq (fun K20 hK20 => ?_)
   refine cj_seq (fun K21 hK21 => ?_)
   refine cj_region ?_
   refine rv0 rfl rfl rfl (y_move rfl) ?_
   refine rv0 rfl rfl rfl (y_slen Try.underlying9 rfl) ?_
   refine rv0 rfl rfl rfl (y_geq rfl rfl) ?_
   refine rj_nil ?_
   refine hK21 _ _ _ ?_
   refine cj_cond rfl (fun hc27 => ?_) (fun hc27 => ?_)
   ·try simp only [dT, dF, nT, nF, tF, fT] at hc27
    refine cj_skip ?_
    refine hK20 _ _ _ ?_
    refine cj_env (eL 0 rfl (eL 4 rfl (eL 6 rfl (eL 7 rfl (eL 8 rfl eN))))) ?_
    refine cj_block ?_
    refine cj_seq (fun K23 hK23 => ?_)
    refine cj_draw (by kernel_rfl) (by kernel_rfl) ?_
    have hrl : 4 ≤ rest.length := by (try simp at hc27); omega
    refine qj_val (wn0 rfl) rfl rfl (y_move rfl) ?_
    refine qj_val (wn0 rfl) rfl rfl ((y_index_s Try.underlying9 rfl rfl (by constructor; decide; omega))) ?_
    refine qj_val (wn0 rfl) rfl rfl ((y_conv_in Try.underlying5 Try.underlying3 rfl (by have := byteAt_bd rest 0; (simp only [IntKind.min, IntKind.max, IntKind.signed, IntKind.bits, Bool.false_eq_true, ite_false, ite_true]; omega)))) ?_
    refine qj_val (wn0 rfl) rfl rfl ((y_shl rfl rfl (by decide))) ?_
    refine qj_val (wn0 rfl) rfl rfl (y_move rfl) ?_
    refine qj_val (wn0 rfl) rfl rfl ((y_index_s Try.underlying9 rfl rfl (by constructor; decide; omega))) ?_
    refine qj_val (wn0 rfl) rfl rfl ((y_conv_in Try.underlying5 Try.underlying3 rfl (by have := byteAt_bd rest 1; (simp only [IntKind.min, IntKind.max, IntKind.signed, IntKind.bits, Bool.false_eq_true, ite_false, ite_true]; omega)))) ?_
    refine qj_val (wn0 rfl) rfl rfl ((y_shl rfl rfl (by decide))) ?_
    refine qj_val (wn0 rfl) rfl rfl (y_or rfl rfl) ?_
    refine qj_val (wn0 rfl) rfl rfl (y_move rfl) ?_
    refine qj_val (wn0 rfl) rfl rfl ((y_index_s Try.underlying9 rfl rfl (by constructor; decide; omega))) ?_
    refine qj_val (wn0 rfl) rfl rfl ((y_conv_in Try.underlying5 Try.underlying3 rfl (by have := byteAt_bd rest 2; (simp only [IntKind.min, IntKind.max, IntKind.signed, IntKind.bits, Bool.false_eq_true, ite_false, ite_true]; omega)))) ?_
    refine qj_val (wn0 rfl) rfl rfl ((y_shl rfl rfl (by decide))) ?_
    refine qj_val (wn0 rfl) rfl rfl (y_or rfl rfl) ?_
    refine qj_val (wn0 rfl) rfl rfl (y_move rfl) ?_
    refine qj_val (wn0 rfl) rfl rfl ((y_index_s Try.underlying9 rfl rfl (by constructor; decide; omega))) ?_
    refine qj_val (wn0 rfl) rfl rfl ((y_conv_in Try.underlying5 Try.underlying3 rfl (by have := byteAt_bd rest 3; (simp only [IntKind.min, IntKind.max, IntKind.signed, IntKind.bits, Bool.false_eq_true, ite_false, ite_true]; omega)))) ?_
    refine qj_val (wn0 rfl) rfl rfl ((Yld.to (y_or rfl rfl) (u := .int .i64 ((be4N rest : Nat) : Int)) (by rw [be4_or]))) ?_
    refine qj_val (wn0 rfl) rfl rfl (y_assign rfl) ?_
    refine qj_nil ?_
    refine hK23 _ _ _ ?_
    refine cj_env (eL 0 rfl (eL 4 rfl (eL 6 rfl (eL 7 rfl (eL 8 rfl (eL 9 rfl eN)))))) ?_
    refine cj_seq (fun K24 hK24 => ?_)
    refine cj_seq (fun K25 hK25 => ?_)
    refine cj_region ?_
    refine rv0 rfl rfl rfl (y_move rfl) ?_
    refine rv0 rfl rfl rfl (y_move rfl) ?_
    refine rv0 rfl rfl rfl (y_slen Try.underlying9 rfl) ?_
    first | refine rv0 rfl rfl rfl (y_sub64 rfl rfl (by (first | omega | (dsimp only; omega) | (simp; done) | (simp; omega)))) ?_ | refine rv0 rfl rfl rfl (y_sub rfl rfl) ?_
    refine rv0 rfl rfl rfl (y_gtr rfl rfl) ?_
    refine rj_nil ?_
    refine hK25 _ _ _ ?_
    refine cj_env (eL 0 rfl (eL 4 rfl (eL 6 rfl (eL 7 rfl (eL 8 rfl (eL 9 rfl (eL 50 rfl eN))))))) ?_
    refine cj_cond rfl (fun hc50 => ?_) (fun hc50 => ?_)
    ·obtain rfl : rs2 = [] := rest_nil hpl hrest (.inr (by (try simp at hc50); omega))
     obtain rfl := plays_nil hpl
     have hfin : R.le R3 ∧ FrX entE R3 g.all va ∧ good + tail.length = B.length := ⟨hR3, hva, by rw [hrest] at hgood; simpa [recsB] using hgood⟩
     refine cj_exit ?_
     refine ej_join hJ15 ((va, R3, good)) (hfin) (eC rfl (eC rfl (eC rfl (eC rfl eN)))) rfl (by (repeat (first|exact zR _|(apply zP;focus (repeat (first|exact zH _|apply zT)))|apply zD|exact zA _ _)))
    ·have hn : be4N rest ≤ rest.length - 4 := by (try simp at hc50); omega
     obtain ⟨r, rs3, rfl, h1, h2, h3, h4⟩ := rest_cons hpl hrest ht hrl hn
     have e1 : rest = be4 (wr r.nd).length ++ (wr r.nd ++ (recsB rs3 ++ tail)) := by rw [hrest, recsB_cons, Rec.bytes]; simp
     have e2 : be4N rest = (wr r.nd).length := by rw [e1, be4_N (by omega)]
     have e4 : (rest.drop 4).take (wr r.nd).length = wr r.nd := by rw [e1]; simp [be4]
     have hdrop : rest.drop (4 + (wr r.nd).length) = recsB rs3 ++ tail := by rw [← List.drop_drop, e1]; simp [be4]
     rw [e2]
     refine cj_skip ?_
     refine hK24 _ _ _ ?_
     refine cj_seq (fun K27 hK27 => ?_)
     refine cj_region ?_
     refine rv0 rfl rfl rfl (y_move rfl) ?_
     refine rv0 rfl rfl rfl (y_move rfl) ?_
     refine rv0 rfl rfl rfl ((y_add64 rfl rfl (by omega))) ?_
     refine rv0 rfl rfl rfl ((Yld.to (u := .string (str (wr r.nd))) (y_slice_s Try.underlying9 rfl rfl rfl (by omega)) (by congr 2; refine Eq.trans ?_ e4; congr 1; omega))) ?_
     refine rj_call (wn0 rfl) rfl Try.call19 rfl (read_t (wr r.nd) (by unfold big; omega)) (by (repeat (first|exact zN _|(apply zS;focus (repeat (first|exact zH _|apply zT)))))) (fun _ _ _ _ h => h.elim) ?_
     rintro x R4 L' hR4 ⟨cy, rfl, hrep, rfl⟩
     rw [Rec.read h2 h1 h3] at hrep ⊢
     obtain ⟨k0, n0, s0, l0, q0, cap0, _, rfl, _, _⟩ := hrep.inv
     replace hrep : RepN R4 r.nd _ := hrep
     try simp only [List.cons_append, List.nil_append]
     refine rv0 rfl rfl rfl (y_move rfl) ?_
     refine rv0 rfl rfl rfl (y_extract rfl rfl) ?_
     refine rv0 rfl rfl rfl (y_extract rfl rfl) ?_
     refine rj_alloc (wn0 rfl) rfl Try.zeroValue62 rfl (fun b10 => ?_)
     refine rj_stores_all (vs := [.int .i64 k0, .int .u64 ((n0 : Nat) : Int), .string (str s0), .slice q0 l0.length cap0]) ⟨Try.isAgg62, Try.sizeOf62⟩ rfl (wn0 rfl) rfl rfl (rep_one hrep) (by (repeat (first|exact zH _|apply zT));done) rfl ?_
     refine rv0 rfl rfl rfl (y_assign rfl) ?_
     refine rj_nil ?_
     refine hK27 _ _ _ ?_
     refine cj_env (eL 0 rfl (eL 4 rfl (eL 6 rfl (eL 7 rfl (eL 8 rfl (eL 9 rfl (eL 10 rfl (eL 11 rfl eN)))))))) ?_
     refine cj_seq (fun K28 hK28 => ?_)
     refine cj_seq (fun K29 hK29 => ?_)
     refine cj_region ?_
     refine rv0 rfl rfl rfl (y_move rfl) ?_
     refine rv0 rfl rfl rfl (y_not rfl) ?_
     refine rv0 rfl rfl rfl (y_move rfl) ?_
     refine rj_val (wn1 rfl rfl rfl rfl) rfl rfl (y_move rfl) ?_
     first | refine rj_val (wn1 rfl rfl rfl rfl) rfl rfl (y_loads_blk ⟨Try.isAgg62, Try.sizeOf62⟩ rfl (by (repeat (first|exact zH _|apply zT));done) rfl rfl) ?_ | refine rj_val (wn1 rfl rfl rfl rfl) rfl rfl (y_loads_slc ⟨Try.isAgg62, Try.sizeOf62⟩ rfl (by (repeat (first|exact zH _|apply zT));done) rfl rfl (by (first | omega | (dsimp only; omega) | (simp; done) | (simp; omega)))) ?_
     refine rj_call (wn1 rfl rfl rfl rfl) rfl Try.call20 rfl (replay_t bl (some ⟨bd, 0, none⟩) va g r h1 h2 (hva.mono hR4) _ hrep) (by (repeat (first|exact zN _|(apply zS;focus (repeat (first|exact zH _|apply zT)))))) (fun _ _ _ _ h => h.elim) ?_
     rintro x R5 L' hR5 ⟨rfl, va4, hva4, rfl⟩
     try simp only [List.cons_append, List.nil_append]
     refine rj_val (wn1 rfl rfl rfl rfl) rfl rfl (y_not rfl) ?_
     refine rv0 rfl rfl rfl (y_pick_f rfl rfl) ?_
     refine rj_nil ?_
     refine hK29 _ _ _ ?_
     refine cj_env (eL 0 rfl (eL 4 rfl (eL 6 rfl (eL 7 rfl (eL 8 rfl (eL 9 rfl (eL 66 rfl eN))))))) ?_
     refine cj_cond_f rfl ?_
     refine cj_skip ?_
     refine hK28 _ _ _ ?_
     refine cj_seq (fun K30 hK30 => ?_)
     refine cj_region ?_
     refine rv0 rfl rfl rfl (y_move rfl) ?_
     refine rv0 rfl rfl rfl (y_move rfl) ?_
     first | refine rv0 rfl rfl rfl (y_add64 rfl rfl (by (first | omega | (dsimp only; omega) | (simp; done) | (simp; omega)))) ?_ | refine rv0 rfl rfl rfl (y_add rfl rfl) ?_
     refine rv0 rfl rfl rfl ((Yld.to (u := .string (str (rest.drop (4 + (wr r.nd).length)))) (y_slice_s_lo Try.underlying9 rfl rfl (by omega)) (by congr 2))) ?_
     refine rv0 rfl rfl rfl (y_assign rfl) ?_
     refine rj_nil ?_
     refine hK30 _ _ _ ?_
     refine cj_env (eL 0 rfl (eL 4 rfl (eL 6 rfl (eL 7 rfl (eL 8 rfl (eL 9 rfl eN)))))) ?_
     refine cj_region ?_
     refine rv0 rfl rfl rfl (y_move rfl) ?_
     refine rv0 rfl rfl rfl (y_move rfl) ?_
     first | refine rv0 rfl rfl rfl (y_add64 rfl rfl (by (first | omega | (dsimp only; omega) | (simp; done) | (simp; omega)))) ?_ | refine rv0 rfl rfl rfl (y_add rfl rfl) ?_
     first | refine rv0 rfl rfl rfl (y_add64 rfl rfl (by (first | omega | (dsimp only; omega) | (simp; done) | (simp; omega)))) ?_ | refine rv0 rfl rfl rfl (y_add rfl rfl) ?_
     refine rv0 rfl rfl rfl (y_assign rfl) ?_
     refine rj_nil ?_
     refine ej_on (q' := roundK _ _ _ _ _ _ _) rfl ?_
     refine ej_round ((g.play r, rs3, va4, R5, rest.drop (4 + (wr r.nd).length), good + (4 + (wr r.nd).length))) (⟨h4, hdrop, hva4, Hp.le_trans hR3 (Hp.le_trans hR4 hR5), by dsimp only; rw [List.length_drop]; omega⟩) (by dsimp only; rw [List.length_drop]; omega) (eC rfl (eC rfl (eC rfl (eC rfl (eC rfl eN))))) rfl (by (repeat (first|exact zR _|(apply zP;focus (repeat (first|exact zH _|apply zT)))|apply zD|exact zA _ _)))
   ·obtain rfl : rs2 = [] := rest_nil hpl hrest (.inl (by (try simp at hc27); omega))
    obtain rfl := plays_nil hpl
    have hfin : R.le R3 ∧ FrX entE R3 g.all va ∧ good + tail.length = B.length := ⟨hR3, hva, by rw [hrest] at hgood; simpa [recsB] using hgood⟩
    refine cj_exit ?_
    refine ej_join hJ15 ((va, R3, good)) (hfin) (eC rfl (eC rfl (eC rfl (eC rfl eN)))) rfl (by (repeat (first|exact zR _|(apply zP;focus (repeat (first|exact zH _|apply zT)))|apply zD|exact zA _ _)))
end V
end Go.Proofs.Ytcgjlhhfldkdaaa
