/- Of a group, bare: walked. -/
import Derived.Test.YtghgifgmacapcaaT18a
set_option linter.unusedSimpArgs false
set_option linter.unusedVariables false
set_option maxRecDepth 100000
namespace Go.Proofs.Ytghgifgmacapcaa
open Go.RowKit
namespace V
set_option maxHeartbeats 4000000
theorem exContains_t {R : Hp} (g : FuncId) (l : List Ex) (v : Value) (hl : FrX exE R l v) (p : Ex → Bool) (hc_g : ∀ args w, (callFunc g args).run Try.prog w = .ok (.enter g args) w)
    (hcall : ∀ x cs, x ∈ l → RepX R x cs → QTri Try.prog g [.agg ⟨cs⟩] R [] (.bool (p x))) :
    QTri Try.prog 39 [v, .func (.func g) ⟨[]⟩ ⟨[]⟩] R [] (.bool (l.any p)) := by
  refine Tri.q ?_
  refine tri_of Try.func39 rfl Try.ntmps39 rfl (fun σ F Q hret hend hpan => ?_)
  try simp only [List.cons_append, List.nil_append]
  refine cj_env (eL 0 rfl (eL 1 rfl eN)) ?_
  refine cj_seq (fun K1 hK1 => ?_)
  refine cj_region ?_
  refine rv0 rfl rfl rfl (y_assign rfl) ?_
  refine rj_nil ?_
  refine hK1 _ _ _ ?_
  refine cj_seq (fun K2 hK2 => ?_)
  refine cj_region ?_
  refine rv0 rfl rfl rfl (y_move rfl) ?_
  refine rv0 rfl rfl rfl (y_move rfl) ?_
  refine rj_call (wn0 rfl) rfl Try.call56 rfl (exIndex_t g l v hl p hc_g hcall) (by (repeat (first|exact zN _|(apply zS;focus (repeat (first|exact zH _|apply zT)))))) (fun _ _ _ _ h => h.elim) ?_
  rintro v R' L' hR ⟨rfl, ⟨z, rfl, hz⟩, rfl⟩
  try simp only [List.cons_append, List.nil_append]
  refine rv0 rfl rfl rfl (y_geq rfl rfl) ?_
  refine rj_eq 8 rfl (v' := .bool (l.any p)) (by congr 1; rw [Bool.eq_iff_iff]; simpa using hz) ?_
  refine rv0 rfl rfl rfl (y_assign rfl) ?_
  refine rj_nil ?_
  refine hK2 _ _ _ ?_
  refine cj_env (eL 4 rfl eN) ?_
  refine cj_ret ?_
  refine hret _ _ _ ?_
  apply ej_ret Try.results39 (.cons (rv_tmp rfl) .nil) _ [] (by (first | exact Hp.le_refl _ | assumption | exact Hp.le_trans ‹_› ‹_›)) rfl
  case hp => exact ⟨rfl, rfl, rfl⟩
  case hS => (repeat (first|exact zR _|(apply zP;focus (repeat (first|exact zH _|apply zT)))|apply zD|exact zA _ _))
theorem group_q (N : Nat) : ∀ (x : Ex) (cs : List Value) {R : Hp}, SizeOf.sizeOf x ≤ N → RepX R x cs → QTri Try.prog 15 [.agg ⟨cs⟩] R [] (.bool (grp x)) := by
  induction N using Nat.strongRecOn with
  | _ N ih =>
  intro x cs R hN hx
  obtain ⟨op, v, name, kids, vk, rfl, rfl, hk⟩ := hx.inv
  have hko := hk.one
  refine Tri.q2 ?_
  unfold exC
  refine tri_of Try.func15 rfl Try.ntmps15 rfl (fun σ F Q hret hend hpan => ?_)
  try simp only [List.cons_append, List.nil_append]
  refine cj_env (eL 0 rfl eN) ?_
  refine cj_seq (fun K1 hK1 => ?_)
  refine cj_region ?_
  refine rj_box (wn0 rfl) rfl rfl rfl (fun b1 => ?_)
  refine rv0 rfl rfl rfl (y_assign rfl) ?_
  refine rj_nil ?_
  refine hK1 _ _ _ ?_
  refine cj_seq (fun K2 hK2 => ?_)
  refine cj_region ?_
  refine rv0 rfl rfl rfl (y_fieldAddr (k := 0) Try.underlying29 rfl (n := 1) (by decide) Try.sizeOf9 rfl) ?_
  first | refine rv0 rfl rfl rfl (y_load ⟨Try.isAgg9, Try.sizeOf9⟩ rfl (by (repeat (first|exact zH _|apply zT));done) rfl) ?_ | refine rv0 rfl rfl rfl (y_load_slc ⟨Try.isAgg9, Try.sizeOf9⟩ rfl (by (repeat (first|exact zH _|apply zT));done) rfl) ?_
  refine rv0 rfl rfl rfl (y_call Try.call38 rfl (of_q op) (by (repeat (first|exact zN _|(apply zS;focus (repeat (first|exact zH _|apply zT))))))) ?_
  refine rv0 rfl rfl rfl (y_eql rfl rfl) ?_
  refine rv0 rfl rfl rfl (y_move rfl) ?_
  refine rj_part 7 rfl (fun hg7 => ?_) (fun hg7 => ?_)
  ·try simp only [dT, dF, nT, nF, tF, fT] at hg7
   refine rj_skip (wn2 rfl rfl rfl rfl rfl) rfl rfl ?_
   refine rj_skip (wn2 rfl rfl rfl rfl rfl) rfl rfl ?_
   refine rj_skip (wn2 rfl rfl rfl rfl rfl) rfl rfl ?_
   refine rv0 rfl rfl rfl (y_pick_t rfl rfl) ?_
   refine rv0 rfl rfl rfl (y_assign rfl) ?_
   refine rj_nil ?_
   refine hK2 _ _ _ ?_
   refine cj_env (eL 2 rfl eN) ?_
   refine cj_ret ?_
   refine hret _ _ _ ?_
   apply ej_ret Try.results15 (.cons (rv_tmp rfl) .nil) _ [] (by (first | exact Hp.le_refl _ | assumption | exact Hp.le_trans ‹_› ‹_›)) rfl
   case hp => clear ih; refine ⟨?_, rfl⟩; rw [grp, grpL_any]; simp_all [tupOf]
   case hS => (repeat (first|exact zR _|(apply zP;focus (repeat (first|exact zH _|apply zT)))|apply zD|exact zA _ _))
  ·try simp only [dT, dF, nT, nF, tF, fT] at hg7
   refine rj_val (wn1 rfl rfl rfl rfl) rfl rfl (y_fieldAddr (k := 5) Try.underlying29 rfl (n := 1) (by decide) Try.sizeOf27 rfl) ?_
   first | refine rj_val (wn1 rfl rfl rfl rfl) rfl rfl (y_load ⟨Try.isAgg27, Try.sizeOf27⟩ rfl (by (repeat (first|exact zH _|apply zT));done) rfl) ?_ | refine rj_val (wn1 rfl rfl rfl rfl) rfl rfl (y_load_slc ⟨Try.isAgg27, Try.sizeOf27⟩ rfl (by (repeat (first|exact zH _|apply zT));done) rfl) ?_
   refine rj_val (wn1 rfl rfl rfl rfl) rfl rfl (y_call Try.call39 rfl (exContains_t 15 kids vk hk grp Try.call15 (fun y cy hm hy => ih (SizeOf.sizeOf y) (by have := List.sizeOf_lt_of_mem hm; simp at hN; omega) y cy (Nat.le_refl _) hy)) (by (repeat (first|exact zN _|(apply zS;focus (repeat (first|exact zH _|apply zT))))))) ?_
   refine rv0 rfl rfl rfl (y_pick_f rfl rfl) ?_
   refine rv0 rfl rfl rfl (y_assign rfl) ?_
   refine rj_nil ?_
   refine hK2 _ _ _ ?_
   refine cj_env (eL 2 rfl eN) ?_
   refine cj_ret ?_
   refine hret _ _ _ ?_
   apply ej_ret Try.results15 (.cons (rv_tmp rfl) .nil) _ [] (by (first | exact Hp.le_refl _ | assumption | exact Hp.le_trans ‹_› ‹_›)) rfl
   case hp => clear ih; refine ⟨?_, rfl⟩; rw [grp, grpL_any]; simp_all [tupOf]
   case hS => (repeat (first|exact zR _|(apply zP;focus (repeat (first|exact zH _|apply zT)))|apply zD|exact zA _ _))
theorem bare_q (N : Nat) : ∀ (x : Ex) (cs : List Value) {R : Hp}, SizeOf.sizeOf x ≤ N → RepX R x cs → QTri Try.prog 35 [.agg ⟨cs⟩] R [] (.bool (bareB x)) := by
  induction N using Nat.strongRecOn with
  | _ N ih =>
  intro x cs R hN hx
  obtain ⟨op, v, name, kids, vk, rfl, rfl, hk⟩ := hx.inv
  have hko := hk.one
  refine Tri.q2 ?_
  unfold exC
  refine tri_of Try.func35 rfl Try.ntmps35 rfl (fun σ F Q hret hend hpan => ?_)
  try simp only [List.cons_append, List.nil_append]
  refine cj_env (eL 0 rfl eN) ?_
  refine cj_seq (fun K1 hK1 => ?_)
  refine cj_region ?_
  refine rj_box (wn0 rfl) rfl rfl rfl (fun b1 => ?_)
  refine rv0 rfl rfl rfl (y_assign rfl) ?_
  refine rj_nil ?_
  refine hK1 _ _ _ ?_
  refine cj_seq (fun K2 hK2 => ?_)
  refine cj_region ?_
  refine rv0 rfl rfl rfl (y_fieldAddr (k := 0) Try.underlying29 rfl (n := 1) (by decide) Try.sizeOf9 rfl) ?_
  first | refine rv0 rfl rfl rfl (y_load ⟨Try.isAgg9, Try.sizeOf9⟩ rfl (by (repeat (first|exact zH _|apply zT));done) rfl) ?_ | refine rv0 rfl rfl rfl (y_load_slc ⟨Try.isAgg9, Try.sizeOf9⟩ rfl (by (repeat (first|exact zH _|apply zT));done) rfl) ?_
  refine rv0 rfl rfl rfl (y_call Try.call38 rfl (of_q op) (by (repeat (first|exact zN _|(apply zS;focus (repeat (first|exact zH _|apply zT))))))) ?_
  refine rv0 rfl rfl rfl (y_neq rfl rfl) ?_
  refine rv0 rfl rfl rfl (y_move rfl) ?_
  refine rj_part 7 rfl (fun hg7 => ?_) (fun hg7 => ?_)
  ·try simp only [dT, dF, nT, nF, tF, fT] at hg7
   refine rj_val (wn1 rfl rfl rfl rfl) rfl rfl (y_fieldAddr (k := 0) Try.underlying29 rfl (n := 1) (by decide) Try.sizeOf9 rfl) ?_
   first | refine rj_val (wn1 rfl rfl rfl rfl) rfl rfl (y_load ⟨Try.isAgg9, Try.sizeOf9⟩ rfl (by (repeat (first|exact zH _|apply zT));done) rfl) ?_ | refine rj_val (wn1 rfl rfl rfl rfl) rfl rfl (y_load_slc ⟨Try.isAgg9, Try.sizeOf9⟩ rfl (by (repeat (first|exact zH _|apply zT));done) rfl) ?_
   refine rj_val (wn1 rfl rfl rfl rfl) rfl rfl (y_seql rfl rfl) ?_
   refine rj_val (wn1 rfl rfl rfl rfl) rfl rfl (y_move rfl) ?_
   refine rj_part 11 rfl (fun hg11 => ?_) (fun hg11 => ?_)
   ·try simp only [dT, dF, nT, nF, tF, fT] at hg11
    refine rj_skip (wn2 rfl rfl rfl rfl rfl) rfl rfl ?_
    refine rj_skip (wn2 rfl rfl rfl rfl rfl) rfl rfl ?_
    refine rj_skip (wn2 rfl rfl rfl rfl rfl) rfl rfl ?_
    refine rj_val (wn1 rfl rfl rfl rfl) rfl rfl (y_pick_t rfl rfl) ?_
    refine rv0 rfl rfl rfl (y_pick_t rfl rfl) ?_
    refine rv0 rfl rfl rfl (y_assign rfl) ?_
    refine rj_nil ?_
    refine hK2 _ _ _ ?_
    refine cj_env (eL 2 rfl eN) ?_
    refine cj_ret ?_
    refine hret _ _ _ ?_
    apply ej_ret Try.results35 (.cons (rv_tmp rfl) .nil) _ [] (by (first | exact Hp.le_refl _ | assumption | exact Hp.le_trans ‹_› ‹_›)) rfl
    case hp => clear ih; refine ⟨?_, rfl⟩; rw [bareB, bareL_any]; cases op <;> first | rfl | (exfalso; simp [Op.str, fam] at *; done) | simp_all [tupOf, fam, Op.str]
    case hS => (repeat (first|exact zR _|(apply zP;focus (repeat (first|exact zH _|apply zT)))|apply zD|exact zA _ _))
   ·try simp only [dT, dF, nT, nF, tF, fT] at hg11
    refine rj_val (wn1 rfl rfl rfl rfl) rfl rfl (y_fieldAddr (k := 5) Try.underlying29 rfl (n := 1) (by decide) Try.sizeOf27 rfl) ?_
    first | refine rj_val (wn1 rfl rfl rfl rfl) rfl rfl (y_load ⟨Try.isAgg27, Try.sizeOf27⟩ rfl (by (repeat (first|exact zH _|apply zT));done) rfl) ?_ | refine rj_val (wn1 rfl rfl rfl rfl) rfl rfl (y_load_slc ⟨Try.isAgg27, Try.sizeOf27⟩ rfl (by (repeat (first|exact zH _|apply zT));done) rfl) ?_
    refine rj_val (wn1 rfl rfl rfl rfl) rfl rfl (y_call Try.call39 rfl (exContains_t 35 kids vk hk bareB Try.call35 (fun y cy hm hy => ih (SizeOf.sizeOf y) (by have := List.sizeOf_lt_of_mem hm; simp at hN; omega) y cy (Nat.le_refl _) hy)) (by (repeat (first|exact zN _|(apply zS;focus (repeat (first|exact zH _|apply zT))))))) ?_
    refine rj_val (wn1 rfl rfl rfl rfl) rfl rfl (y_pick_f rfl rfl) ?_
    refine rv0 rfl rfl rfl (y_pick_t rfl rfl) ?_
    refine rv0 rfl rfl rfl (y_assign rfl) ?_
    refine rj_nil ?_
    refine hK2 _ _ _ ?_
    refine cj_env (eL 2 rfl eN) ?_
    refine cj_ret ?_
    refine hret _ _ _ ?_
    apply ej_ret Try.results35 (.cons (rv_tmp rfl) .nil) _ [] (by (first | exact Hp.le_refl _ | assumption | exact Hp.le_trans ‹_› ‹_›)) rfl
    case hp => clear ih; refine ⟨?_, rfl⟩; rw [bareB, bareL_any]; cases op <;> first | rfl | (exfalso; simp [Op.str, fam] at *; done) | simp_all [tupOf, fam, Op.str]
    case hS => (repeat (first|exact zR _|(apply zP;focus (repeat (first|exact zH _|apply zT)))|apply zD|exact zA _ _))
  ·try simp only [dT, dF, nT, nF, tF, fT] at hg7
   refine rj_skip (wn2 rfl rfl rfl rfl rfl) rfl rfl ?_
   refine rj_skip (wn2 rfl rfl rfl rfl rfl) rfl rfl ?_
   refine rj_skip (wn2 rfl rfl rfl rfl rfl) rfl rfl ?_
   refine rj_skip (wn2 rfl rfl rfl rfl rfl) rfl rfl ?_
   refine rj_skip (wn3 rfl rfl rfl rfl) rfl rfl ?_
   refine rj_skip (wn3 rfl rfl rfl rfl) rfl rfl ?_
   refine rj_skip (wn3 rfl rfl rfl rfl) rfl rfl ?_
   refine rj_skip (wn2 rfl rfl rfl rfl rfl) rfl rfl ?_
   refine rv0 rfl rfl rfl (y_pick_f rfl rfl) ?_
   refine rv0 rfl rfl rfl (y_assign rfl) ?_
   refine rj_nil ?_
   refine hK2 _ _ _ ?_
   refine cj_env (eL 2 rfl eN) ?_
   refine cj_ret ?_
   refine hret _ _ _ ?_
   apply ej_ret Try.results35 (.cons (rv_tmp rfl) .nil) _ [] (by (first | exact Hp.le_refl _ | assumption | exact Hp.le_trans ‹_› ‹_›)) rfl
   case hp => clear ih; refine ⟨?_, rfl⟩; rw [bareB, bareL_any]; cases op <;> first | rfl | (exfalso; simp [Op.str, fam] at *; done) | simp_all [tupOf, fam, Op.str]
   case hS => (repeat (first|exact zR _|(apply zP;focus (repeat (first|exact zH _|apply zT)))|apply zD|exact zA _ _))
/-! ### the document's -/
theorem rgroup_q (N : Nat) : ∀ (x : Ex) (cs : List Value) {R : Hp}, SizeOf.sizeOf x ≤ N → RepX R x cs → QTri Try.prog 16 [.agg ⟨cs⟩] R [] (.bool (grp x)) := by
  induction N using Nat.strongRecOn with
  | _ N ih =>
  intro x cs R hN hx
  obtain ⟨op, v, name, kids, vk, rfl, rfl, hk⟩ := hx.inv
  obtain ⟨q, cap, rfl, hcap, hcm⟩ := hk.shape
  have hlb : kids.length ≤ maxLen := Nat.le_trans hcap hcm
  unfold maxLen at hlb
  refine Tri.q2 ?_
  unfold exC
  refine tri_of Try.func16 rfl Try.ntmps16 rfl (fun σ F Q hret hend hpan => ?_)
  try simp only [List.cons_append, List.nil_append]
  refine cj_env (eL 0 rfl eN) ?_
  refine cj_seq (fun K1 hK1 => ?_)
  refine cj_region ?_
  refine rj_box (wn0 rfl) rfl rfl rfl (fun b1 => ?_)
  refine rv0 rfl rfl rfl (y_assign rfl) ?_
  refine rj_nil ?_
  refine hK1 _ _ _ ?_
  refine cj_seq (fun K2 hK2 => ?_)
  refine cj_seq (fun K3 hK3 => ?_)
  refine cj_region ?_
  refine rv0 rfl rfl rfl (y_fieldAddr (k := 0) Try.underlying29 rfl (n := 1) (by decide) Try.sizeOf9 rfl) ?_
  first | refine rv0 rfl rfl rfl (y_load ⟨Try.isAgg9, Try.sizeOf9⟩ rfl (by (repeat (first|exact zH _|apply zT));done) rfl) ?_ | refine rv0 rfl rfl rfl (y_load_slc ⟨Try.isAgg9, Try.sizeOf9⟩ rfl (by (repeat (first|exact zH _|apply zT));done) rfl) ?_
  refine rv0 rfl rfl rfl (y_seql rfl rfl) ?_
  refine rv0 rfl rfl rfl (y_move rfl) ?_
  refine rj_part 7 rfl (fun hg7 => ?_) (fun hg7 => ?_)
  ·have hop : fam op = 5 := by cases op <;> first | rfl | (exfalso; simp [Op.str] at hg7)
   refine rj_skip (wn2 rfl rfl rfl rfl rfl) rfl rfl ?_
   refine rj_skip (wn2 rfl rfl rfl rfl rfl) rfl rfl ?_
   refine rj_skip (wn2 rfl rfl rfl rfl rfl) rfl rfl ?_
   refine rv0 rfl rfl rfl (y_pick_t rfl rfl) ?_
   refine rv0 rfl rfl rfl (y_move rfl) ?_
   refine rj_skip (wn2 rfl rfl rfl rfl rfl) rfl rfl ?_
   refine rj_skip (wn2 rfl rfl rfl rfl rfl) rfl rfl ?_
   refine rj_skip (wn2 rfl rfl rfl rfl rfl) rfl rfl ?_
   refine rv0 rfl rfl rfl (y_pick_t rfl rfl) ?_
   refine rv0 rfl rfl rfl (y_move rfl) ?_
   refine rj_skip (wn2 rfl rfl rfl rfl rfl) rfl rfl ?_
   refine rj_skip (wn2 rfl rfl rfl rfl rfl) rfl rfl ?_
   refine rj_skip (wn2 rfl rfl rfl rfl rfl) rfl rfl ?_
   refine rv0 rfl rfl rfl (y_pick_t rfl rfl) ?_
   refine rj_nil ?_
   refine hK3 _ _ _ ?_
   refine cj_env (eL 1 rfl (eL 21 rfl eN)) ?_
   refine cj_cond_t rfl ?_
   refine cj_seq (fun K4 hK4 => ?_)
   refine cj_region ?_
   refine rv0 rfl rfl rfl (y_assign rfl) ?_
   refine rj_nil ?_
   refine hK4 _ _ _ ?_
   refine cj_ret ?_
   refine hret _ _ _ ?_
   apply ej_ret Try.results16 (.cons (rv_tmp rfl) .nil) _ [] (by (first | exact Hp.le_refl _ | assumption | exact Hp.le_trans ‹_› ‹_›)) rfl
   case hp => refine ⟨?_, rfl⟩; rw [grp, hop]; rfl
   case hS => (repeat (first|exact zR _|(apply zP;focus (repeat (first|exact zH _|apply zT)))|apply zD|exact zA _ _))
  ·try simp only [dT, dF, nT, nF, tF, fT] at hg7
   refine rj_val (wn1 rfl rfl rfl rfl) rfl rfl (y_fieldAddr (k := 0) Try.underlying29 rfl (n := 1) (by decide) Try.sizeOf9 rfl) ?_
   first | refine rj_val (wn1 rfl rfl rfl rfl) rfl rfl (y_load ⟨Try.isAgg9, Try.sizeOf9⟩ rfl (by (repeat (first|exact zH _|apply zT));done) rfl) ?_ | refine rj_val (wn1 rfl rfl rfl rfl) rfl rfl (y_load_slc ⟨Try.isAgg9, Try.sizeOf9⟩ rfl (by (repeat (first|exact zH _|apply zT));done) rfl) ?_
   refine rj_val (wn1 rfl rfl rfl rfl) rfl rfl (y_seql rfl rfl) ?_
   refine rv0 rfl rfl rfl (y_pick_f rfl rfl) ?_
   refine rv0 rfl rfl rfl (y_move rfl) ?_
   refine rj_part 12 rfl (fun hg12 => ?_) (fun hg12 => ?_)
   ·have hop : fam op = 5 := by cases op <;> first | rfl | (exfalso; simp [Op.str] at hg12)
    refine rj_skip (wn2 rfl rfl rfl rfl rfl) rfl rfl ?_
    refine rj_skip (wn2 rfl rfl rfl rfl rfl) rfl rfl ?_
    refine rj_skip (wn2 rfl rfl rfl rfl rfl) rfl rfl ?_
    refine rv0 rfl rfl rfl (y_pick_t rfl rfl) ?_
    refine rv0 rfl rfl rfl (y_move rfl) ?_
    refine rj_skip (wn2 rfl rfl rfl rfl rfl) rfl rfl ?_
    refine rj_skip (wn2 rfl rfl rfl rfl rfl) rfl rfl ?_
    refine rj_skip (wn2 rfl rfl rfl rfl rfl) rfl rfl ?_
    refine rv0 rfl rfl rfl (y_pick_t rfl rfl) ?_
    refine rj_nil ?_
    refine hK3 _ _ _ ?_
    refine cj_env (eL 1 rfl (eL 21 rfl eN)) ?_
    refine cj_cond_t rfl ?_
    refine cj_seq (fun K5 hK5 => ?_)
    refine cj_region ?_
    refine rv0 rfl rfl rfl (y_assign rfl) ?_
    refine rj_nil ?_
    refine hK5 _ _ _ ?_
    refine cj_ret ?_
    refine hret _ _ _ ?_
    apply ej_ret Try.results16 (.cons (rv_tmp rfl) .nil) _ [] (by (first | exact Hp.le_refl _ | assumption | exact Hp.le_trans ‹_› ‹_›)) rfl
    case hp => refine ⟨?_, rfl⟩; rw [grp, hop]; rfl
    case hS => (repeat (first|exact zR _|(apply zP;focus (repeat (first|exact zH _|apply zT)))|apply zD|exact zA _ _))
   ·try simp only [dT, dF, nT, nF, tF, fT] at hg12
    refine rj_val (wn1 rfl rfl rfl rfl) rfl rfl (y_fieldAddr (k := 0) Try.underlying29 rfl (n := 1) (by decide) Try.sizeOf9 rfl) ?_
    first | refine rj_val (wn1 rfl rfl rfl rfl) rfl rfl (y_load ⟨Try.isAgg9, Try.sizeOf9⟩ rfl (by (repeat (first|exact zH _|apply zT));done) rfl) ?_ | refine rj_val (wn1 rfl rfl rfl rfl) rfl rfl (y_load_slc ⟨Try.isAgg9, Try.sizeOf9⟩ rfl (by (repeat (first|exact zH _|apply zT));done) rfl) ?_
    refine rj_val (wn1 rfl rfl rfl rfl) rfl rfl (y_seql rfl rfl) ?_
    refine rv0 rfl rfl rfl (y_pick_f rfl rfl) ?_
    refine rv0 rfl rfl rfl (y_move rfl) ?_
    refine rj_part 17 rfl (fun hg17 => ?_) (fun hg17 => ?_)
    ·have hop : fam op = 5 := by cases op <;> first | rfl | (exfalso; simp [Op.str] at hg17)
     refine rj_skip (wn2 rfl rfl rfl rfl rfl) rfl rfl ?_
     refine rj_skip (wn2 rfl rfl rfl rfl rfl) rfl rfl ?_
     refine rj_skip (wn2 rfl rfl rfl rfl rfl) rfl rfl ?_
     refine rv0 rfl rfl rfl (y_pick_t rfl rfl) ?_
     refine rj_nil ?_
     refine hK3 _ _ _ ?_
     refine cj_env (eL 1 rfl (eL 21 rfl eN)) ?_
     refine cj_cond_t rfl ?_
     refine cj_seq (fun K6 hK6 => ?_)
     refine cj_region ?_
     refine rv0 rfl rfl rfl (y_assign rfl) ?_
     refine rj_nil ?_
     refine hK6 _ _ _ ?_
     refine cj_ret ?_
     refine hret _ _ _ ?_
     apply ej_ret Try.results16 (.cons (rv_tmp rfl) .nil) _ [] (by (first | exact Hp.le_refl _ | assumption | exact Hp.le_trans ‹_› ‹_›)) rfl
     case hp => refine ⟨?_, rfl⟩; rw [grp, hop]; rfl
     case hS => (repeat (first|exact zR _|(apply zP;focus (repeat (first|exact zH _|apply zT)))|apply zD|exact zA _ _))
    ·try simp only [dT, dF, nT, nF, tF, fT] at hg17
     refine rj_val (wn1 rfl rfl rfl rfl) rfl rfl (y_fieldAddr (k := 0) Try.underlying29 rfl (n := 1) (by decide) Try.sizeOf9 rfl) ?_
     first | refine rj_val (wn1 rfl rfl rfl rfl) rfl rfl (y_load ⟨Try.isAgg9, Try.sizeOf9⟩ rfl (by (repeat (first|exact zH _|apply zT));done) rfl) ?_ | refine rj_val (wn1 rfl rfl rfl rfl) rfl rfl (y_load_slc ⟨Try.isAgg9, Try.sizeOf9⟩ rfl (by (repeat (first|exact zH _|apply zT));done) rfl) ?_
     refine rj_val (wn1 rfl rfl rfl rfl) rfl rfl (y_seql rfl rfl) ?_
     refine rv0 rfl rfl rfl (y_pick_f rfl rfl) ?_
     refine rj_nil ?_
     refine hK3 _ _ _ ?_
     refine cj_env (eL 1 rfl (eL 21 rfl eN)) ?_
     refine cj_cond rfl (fun hc21 => ?_) (fun hc21 => ?_)
     ·have hop : fam op = 5 := by cases op <;> first | rfl | (exfalso; simp [Op.str] at hc21)
      refine cj_seq (fun K8 hK8 => ?_)
      refine cj_region ?_
      refine rv0 rfl rfl rfl (y_assign rfl) ?_
      refine rj_nil ?_
      refine hK8 _ _ _ ?_
      refine cj_ret ?_
      refine hret _ _ _ ?_
      apply ej_ret Try.results16 (.cons (rv_tmp rfl) .nil) _ [] (by (first | exact Hp.le_refl _ | assumption | exact Hp.le_trans ‹_› ‹_›)) rfl
      case hp => refine ⟨?_, rfl⟩; rw [grp, hop]; rfl
      case hS => (repeat (first|exact zR _|(apply zP;focus (repeat (first|exact zH _|apply zT)))|apply zD|exact zA _ _))
     ·have hop : ¬ fam op = 5 := by cases op <;> first | decide | (exfalso; simp [Op.str] at hc21 hg7 hg12 hg17)
      refine cj_skip ?_
      refine hK2 _ _ _ ?_
      refine cj_seq (fun K9 hK9 => ?_)
      refine cj_seq (fun K10 hK10 => ?_)
      refine cj_region ?_
      refine rv0 rfl rfl rfl (y_assign rfl) ?_
      refine rj_nil ?_
      refine hK10 _ _ _ ?_
      refine cj_block ?_
      refine cj_env (E' := (fun (x : Nat) => [(1, .pointer (some ⟨b1, 0, none⟩)), (3, .int .i64 (x : Int))]) 0) (eC rfl (eC rfl eN)) ?_
      refine cj_sub (M := (fun (x : Nat) => blk b1 (exC op.str v name (.slice q kids.length cap)) 29 :: F) 0) (by (repeat (first|exact zR _|(apply zP;focus (repeat (first|exact zH _|apply zT)))|apply zD|exact zA _ _))) ?_
      refine cj_loop (fun (x : Nat) => [(1, .pointer (some ⟨b1, 0, none⟩)), (3, .int .i64 (x : Int))]) (fun (x : Nat) => R) (fun (x : Nat) => blk b1 (exC op.str v name (.slice q kids.length cap)) 29 :: F) (fun (x : Nat) => x ≤ kids.length ∧ (kids.take x).any grp = false) (fun (x : Nat) => kids.length - x) 0 (⟨by simp, by simp⟩) ?_
      rintro i ⟨hi, hall⟩
      try dsimp only
      refine cj_seq (fun K11 hK11 => ?_)
      refine cj_seq (fun K12 hK12 => ?_)
      refine cj_region ?_
      refine rv0 rfl rfl rfl (y_move rfl) ?_
      refine rv0 rfl rfl rfl (y_fieldAddr (k := 5) Try.underlying29 rfl (n := 1) (by decide) Try.sizeOf27 rfl) ?_
      first | refine rv0 rfl rfl rfl (y_load ⟨Try.isAgg27, Try.sizeOf27⟩ rfl (by (repeat (first|exact zH _|apply zT));done) rfl) ?_ | refine rv0 rfl rfl rfl (y_load_slc ⟨Try.isAgg27, Try.sizeOf27⟩ rfl (by (repeat (first|exact zH _|apply zT));done) rfl) ?_
      first | refine rv0 rfl rfl rfl (y_len_sl Try.underlying27 rfl) ?_ | refine rv0 rfl rfl rfl (y_len_slc Try.underlying27 rfl (by (repeat (first|exact zH _|apply zT));done)) ?_
      refine rv0 rfl rfl rfl (y_lss rfl rfl) ?_
      refine rj_nil ?_
      refine hK12 _ _ _ ?_
      refine cj_env (eL 1 rfl (eL 3 rfl (eL 26 rfl eN))) ?_
      refine cj_cond rfl (fun hc26 => ?_) (fun hc26 => ?_)
      ·try simp only [dT, dF, nT, nF, tF, fT] at hc26
       refine cj_skip ?_
       refine hK11 _ _ _ ?_
       refine cj_seq (fun K14 hK14 => ?_)
       refine cj_block ?_
       refine cj_seq (fun K15 hK15 => ?_)
       refine cj_region ?_
       obtain ⟨y, hy⟩ : ∃ x, kids[i]? = some x := ⟨kids[i]'(by omega), by simp⟩
       obtain ⟨b, off, cap', cy, he, hrep, hcl, hcell⟩ := hk.at hy
       obtain ⟨rfl, rfl⟩ : q = some ⟨b, off, none⟩ ∧ cap = cap' := by cases he; exact ⟨rfl, rfl⟩
       refine rv0 rfl rfl rfl (y_fieldAddr (k := 5) Try.underlying29 rfl (n := 1) (by decide) Try.sizeOf27 rfl) ?_
       first | refine rv0 rfl rfl rfl (y_load ⟨Try.isAgg27, Try.sizeOf27⟩ rfl (by (repeat (first|exact zH _|apply zT));done) rfl) ?_ | refine rv0 rfl rfl rfl (y_load_slc ⟨Try.isAgg27, Try.sizeOf27⟩ rfl (by (repeat (first|exact zH _|apply zT));done) rfl) ?_
       refine rv0 rfl rfl rfl (y_move rfl) ?_
       first | refine rv0 rfl rfl rfl (y_indexAddr Try.underlying27 Try.sizeOf29 rfl rfl (by (first | omega | (dsimp only; omega) | (simp; done) | (simp; omega)))) ?_ | refine rv0 rfl rfl rfl (y_index_slc Try.underlying27 Try.sizeOf29 rfl rfl (by (repeat (first|exact zH _|apply zT));done) (by (first | omega | (dsimp only; omega) | (simp; done) | (simp; omega)))) ?_
       refine rv0 rfl rfl rfl ((y_loads_ro ⟨Try.isAgg29, Try.sizeOf29⟩ (vs := cy) hcl rfl (fun j u hj => hcell j u hj))) ?_
       refine rv0 rfl rfl rfl (y_call Try.call16 rfl (ih (SizeOf.sizeOf y) (by have := List.sizeOf_lt_of_mem (List.mem_of_getElem? hy); simp at hN; omega) y cy (Nat.le_refl _) hrep) (by (repeat (first|exact zN _|(apply zS;focus (repeat (first|exact zH _|apply zT))))))) ?_
       refine rj_nil ?_
       refine hK15 _ _ _ ?_
       refine cj_env (eL 1 rfl (eL 3 rfl (eL 34 rfl eN))) ?_
       refine cj_cond rfl (fun hc34 => ?_) (fun hc34 => ?_)
       ·try simp only [dT, dF, nT, nF, tF, fT] at hc34
        refine cj_seq (fun K17 hK17 => ?_)
        refine cj_region ?_
        refine rv0 rfl rfl rfl (y_assign rfl) ?_
        refine rj_nil ?_
        refine hK17 _ _ _ ?_
        refine cj_env (eL 2 rfl eN) ?_
        refine cj_ret ?_
        refine hret _ _ _ ?_
        apply ej_ret Try.results16 (.cons (rv_tmp rfl) .nil) _ [] (by (first | exact Hp.le_refl _ | assumption | exact Hp.le_trans ‹_› ‹_›)) rfl
        case hp => refine ⟨?_, rfl⟩; rw [grp, grpL_any, decide_eq_false hop, List.any_eq_true.2 ⟨y, List.mem_of_getElem? hy, hc34⟩]; rfl
        case hS => (repeat (first|exact zR _|(apply zP;focus (repeat (first|exact zH _|apply zT)))|apply zD|exact zA _ _))
       ·try simp only [dT, dF, nT, nF, tF, fT] at hc34
        refine cj_skip ?_
        refine hK14 _ _ _ ?_
        refine cj_region ?_
        refine rv0 rfl rfl rfl (y_move rfl) ?_
        first | refine rv0 rfl rfl rfl (y_add64 rfl rfl (by (first | omega | (dsimp only; omega) | (simp; done) | (simp; omega)))) ?_ | refine rv0 rfl rfl rfl (y_add rfl rfl) ?_
        refine rv0 rfl rfl rfl (y_assign rfl) ?_
        refine rj_nil ?_
        refine ej_on (q' := roundK _ _ _ _ _ _ _) rfl ?_
        refine ej_round (i + 1) (⟨by omega, by rw [List.take_add_one, hy]; simp [hall, hc34]⟩) (by omega) (eC rfl (eC rfl eN)) rfl (by (repeat (first|exact zR _|(apply zP;focus (repeat (first|exact zH _|apply zT)))|apply zD|exact zA _ _)))
      ·try simp only [dT, dF, nT, nF, tF, fT] at hc26
       refine cj_exit ?_
       refine hK9 _ _ _ ?_
       refine cj_env eN ?_
       refine cj_seq (fun K18 hK18 => ?_)
       refine cj_region ?_
       refine rv0 rfl rfl rfl (y_assign rfl) ?_
       refine rj_nil ?_
       refine hK18 _ _ _ ?_
       refine cj_ret ?_
       refine hret _ _ _ ?_
       apply ej_ret Try.results16 (.cons (rv_tmp rfl) .nil) _ [] (by (first | exact Hp.le_refl _ | assumption | exact Hp.le_trans ‹_› ‹_›)) rfl
       case hp => refine ⟨?_, rfl⟩; rw [List.take_of_length_le (by omega)] at hall; rw [grp, grpL_any, decide_eq_false hop, hall]; rfl
       case hS => (repeat (first|exact zR _|(apply zP;focus (repeat (first|exact zH _|apply zT)))|apply zD|exact zA _ _))
theorem rbare_q (N : Nat) : ∀ (x : Ex) (cs : List Value) {R : Hp}, SizeOf.sizeOf x ≤ N → RepX R x cs → QTri Try.prog 37 [.agg ⟨cs⟩] R [] (.bool (bareB x)) := by
  induction N using Nat.strongRecOn with
  | _ N ih =>
  intro x cs R hN hx
  obtain ⟨op, v, name, kids, vk, rfl, rfl, hk⟩ := hx.inv
  obtain ⟨q, cap, rfl, hcap, hcm⟩ := hk.shape
  have hlb : kids.length ≤ maxLen := Nat.le_trans hcap hcm
  unfold maxLen at hlb
  refine Tri.q2 ?_
  unfold exC
  refine tri_of Try.func37 rfl Try.ntmps37 rfl (fun σ F Q hret hend hpan => ?_)
  try simp only [List.cons_append, List.nil_append]
  refine cj_env (eL 0 rfl eN) ?_
  refine cj_seq (fun K1 hK1 => ?_)
  refine cj_region ?_
  refine rj_box (wn0 rfl) rfl rfl rfl (fun b1 => ?_)
  refine rv0 rfl rfl rfl (y_assign rfl) ?_
  refine rj_nil ?_
  refine hK1 _ _ _ ?_
  refine cj_seq (fun K2 hK2 => ?_)
  refine cj_seq (fun K3 hK3 => ?_)
  refine cj_region ?_
  refine rv0 rfl rfl rfl (y_fieldAddr (k := 0) Try.underlying29 rfl (n := 1) (by decide) Try.sizeOf9 rfl) ?_
  first | refine rv0 rfl rfl rfl (y_load ⟨Try.isAgg9, Try.sizeOf9⟩ rfl (by (repeat (first|exact zH _|apply zT));done) rfl) ?_ | refine rv0 rfl rfl rfl (y_load_slc ⟨Try.isAgg9, Try.sizeOf9⟩ rfl (by (repeat (first|exact zH _|apply zT));done) rfl) ?_
  refine rv0 rfl rfl rfl (y_seql rfl rfl) ?_
  refine rv0 rfl rfl rfl (y_move rfl) ?_
  refine rj_part 7 rfl (fun hg7 => ?_) (fun hg7 => ?_)
  ·have hop : fam op = 5 := by cases op <;> first | rfl | (exfalso; simp [Op.str] at hg7)
   refine rj_skip (wn2 rfl rfl rfl rfl rfl) rfl rfl ?_
   refine rj_skip (wn2 rfl rfl rfl rfl rfl) rfl rfl ?_
   refine rj_skip (wn2 rfl rfl rfl rfl rfl) rfl rfl ?_
   refine rv0 rfl rfl rfl (y_pick_t rfl rfl) ?_
   refine rv0 rfl rfl rfl (y_move rfl) ?_
   refine rj_skip (wn2 rfl rfl rfl rfl rfl) rfl rfl ?_
   refine rj_skip (wn2 rfl rfl rfl rfl rfl) rfl rfl ?_
   refine rj_skip (wn2 rfl rfl rfl rfl rfl) rfl rfl ?_
   refine rv0 rfl rfl rfl (y_pick_t rfl rfl) ?_
   refine rv0 rfl rfl rfl (y_move rfl) ?_
   refine rj_skip (wn2 rfl rfl rfl rfl rfl) rfl rfl ?_
   refine rj_skip (wn2 rfl rfl rfl rfl rfl) rfl rfl ?_
   refine rj_skip (wn2 rfl rfl rfl rfl rfl) rfl rfl ?_
   refine rv0 rfl rfl rfl (y_pick_t rfl rfl) ?_
   refine rj_nil ?_
   refine hK3 _ _ _ ?_
   refine cj_env (eL 1 rfl (eL 21 rfl eN)) ?_
   refine cj_cond_t rfl ?_
   refine cj_seq (fun K4 hK4 => ?_)
   refine cj_region ?_
   refine rv0 rfl rfl rfl (y_assign rfl) ?_
   refine rj_nil ?_
   refine hK4 _ _ _ ?_
   refine cj_ret ?_
   refine hret _ _ _ ?_
   apply ej_ret Try.results37 (.cons (rv_tmp rfl) .nil) _ [] (by (first | exact Hp.le_refl _ | assumption | exact Hp.le_trans ‹_› ‹_›)) rfl
   case hp => refine ⟨?_, rfl⟩; rw [bareB, decide_eq_false (by simpa using hop)]; rfl
   case hS => (repeat (first|exact zR _|(apply zP;focus (repeat (first|exact zH _|apply zT)))|apply zD|exact zA _ _))
  ·try simp only [dT, dF, nT, nF, tF, fT] at hg7
   refine rj_val (wn1 rfl rfl rfl rfl) rfl rfl (y_fieldAddr (k := 0) Try.underlying29 rfl (n := 1) (by decide) Try.sizeOf9 rfl) ?_
   first | refine rj_val (wn1 rfl rfl rfl rfl) rfl rfl (y_load ⟨Try.isAgg9, Try.sizeOf9⟩ rfl (by (repeat (first|exact zH _|apply zT));done) rfl) ?_ | refine rj_val (wn1 rfl rfl rfl rfl) rfl rfl (y_load_slc ⟨Try.isAgg9, Try.sizeOf9⟩ rfl (by (repeat (first|exact zH _|apply zT));done) rfl) ?_
   refine rj_val (wn1 rfl rfl rfl rfl) rfl rfl (y_seql rfl rfl) ?_
   refine rv0 rfl rfl rfl (y_pick_f rfl rfl) ?_
   refine rv0 rfl rfl rfl (y_move rfl) ?_
   refine rj_part 12 rfl (fun hg12 => ?_) (fun hg12 => ?_)
   ·have hop : fam op = 5 := by cases op <;> first | rfl | (exfalso; simp [Op.str] at hg12)
    refine rj_skip (wn2 rfl rfl rfl rfl rfl) rfl rfl ?_
    refine rj_skip (wn2 rfl rfl rfl rfl rfl) rfl rfl ?_
    refine rj_skip (wn2 rfl rfl rfl rfl rfl) rfl rfl ?_
    refine rv0 rfl rfl rfl (y_pick_t rfl rfl) ?_
    refine rv0 rfl rfl rfl (y_move rfl) ?_
    refine rj_skip (wn2 rfl rfl rfl rfl rfl) rfl rfl ?_
    refine rj_skip (wn2 rfl rfl rfl rfl rfl) rfl rfl ?_
    refine rj_skip (wn2 rfl rfl rfl rfl rfl) rfl rfl ?_
    refine rv0 rfl rfl rfl (y_pick_t rfl rfl) ?_
    refine rj_nil ?_
    refine hK3 _ _ _ ?_
    refine cj_env (eL 1 rfl (eL 21 rfl eN)) ?_
    refine cj_cond_t rfl ?_
    refine cj_seq (fun K5 hK5 => ?_)
    refine cj_region ?_
    refine rv0 rfl rfl rfl (y_assign rfl) ?_
    refine rj_nil ?_
    refine hK5 _ _ _ ?_
    refine cj_ret ?_
    refine hret _ _ _ ?_
    apply ej_ret Try.results37 (.cons (rv_tmp rfl) .nil) _ [] (by (first | exact Hp.le_refl _ | assumption | exact Hp.le_trans ‹_› ‹_›)) rfl
    case hp => refine ⟨?_, rfl⟩; rw [bareB, decide_eq_false (by simpa using hop)]; rfl
    case hS => (repeat (first|exact zR _|(apply zP;focus (repeat (first|exact zH _|apply zT)))|apply zD|exact zA _ _))
   ·try simp only [dT, dF, nT, nF, tF, fT] at hg12
    refine rj_val (wn1 rfl rfl rfl rfl) rfl rfl (y_fieldAddr (k := 0) Try.underlying29 rfl (n := 1) (by decide) Try.sizeOf9 rfl) ?_
    first | refine rj_val (wn1 rfl rfl rfl rfl) rfl rfl (y_load ⟨Try.isAgg9, Try.sizeOf9⟩ rfl (by (repeat (first|exact zH _|apply zT));done) rfl) ?_ | refine rj_val (wn1 rfl rfl rfl rfl) rfl rfl (y_load_slc ⟨Try.isAgg9, Try.sizeOf9⟩ rfl (by (repeat (first|exact zH _|apply zT));done) rfl) ?_
    refine rj_val (wn1 rfl rfl rfl rfl) rfl rfl (y_seql rfl rfl) ?_
    refine rv0 rfl rfl rfl (y_pick_f rfl rfl) ?_
    refine rv0 rfl rfl rfl (y_move rfl) ?_
    refine rj_part 17 rfl (fun hg17 => ?_) (fun hg17 => ?_)
    ·have hop : fam op = 5 := by cases op <;> first | rfl | (exfalso; simp [Op.str] at hg17)
     refine rj_skip (wn2 rfl rfl rfl rfl rfl) rfl rfl ?_
     refine rj_skip (wn2 rfl rfl rfl rfl rfl) rfl rfl ?_
     refine rj_skip (wn2 rfl rfl rfl rfl rfl) rfl rfl ?_
     refine rv0 rfl rfl rfl (y_pick_t rfl rfl) ?_
     refine rj_nil ?_
     refine hK3 _ _ _ ?_
     refine cj_env (eL 1 rfl (eL 21 rfl eN)) ?_
     refine cj_cond_t rfl ?_
     refine cj_seq (fun K6 hK6 => ?_)
     refine cj_region ?_
     refine rv0 rfl rfl rfl (y_assign rfl) ?_
     refine rj_nil ?_
     refine hK6 _ _ _ ?_
     refine cj_ret ?_
     refine hret _ _ _ ?_
     apply ej_ret Try.results37 (.cons (rv_tmp rfl) .nil) _ [] (by (first | exact Hp.le_refl _ | assumption | exact Hp.le_trans ‹_› ‹_›)) rfl
     case hp => refine ⟨?_, rfl⟩; rw [bareB, decide_eq_false (by simpa using hop)]; rfl
     case hS => (repeat (first|exact zR _|(apply zP;focus (repeat (first|exact zH _|apply zT)))|apply zD|exact zA _ _))
    ·try simp only [dT, dF, nT, nF, tF, fT] at hg17
     refine rj_val (wn1 rfl rfl rfl rfl) rfl rfl (y_fieldAddr (k := 0) Try.underlying29 rfl (n := 1) (by decide) Try.sizeOf9 rfl) ?_
     first | refine rj_val (wn1 rfl rfl rfl rfl) rfl rfl (y_load ⟨Try.isAgg9, Try.sizeOf9⟩ rfl (by (repeat (first|exact zH _|apply zT));done) rfl) ?_ | refine rj_val (wn1 rfl rfl rfl rfl) rfl rfl (y_load_slc ⟨Try.isAgg9, Try.sizeOf9⟩ rfl (by (repeat (first|exact zH _|apply zT));done) rfl) ?_
     refine rj_val (wn1 rfl rfl rfl rfl) rfl rfl (y_seql rfl rfl) ?_
     refine rv0 rfl rfl rfl (y_pick_f rfl rfl) ?_
     refine rj_nil ?_
     refine hK3 _ _ _ ?_
     refine cj_env (eL 1 rfl (eL 21 rfl eN)) ?_
     refine cj_cond rfl (fun hc21 => ?_) (fun hc21 => ?_)
     ·have hop : fam op = 5 := by cases op <;> first | rfl | (exfalso; simp [Op.str] at hc21)
      refine cj_seq (fun K8 hK8 => ?_)
      refine cj_region ?_
      refine rv0 rfl rfl rfl (y_assign rfl) ?_
      refine rj_nil ?_
      refine hK8 _ _ _ ?_
      refine cj_ret ?_
      refine hret _ _ _ ?_
      apply ej_ret Try.results37 (.cons (rv_tmp rfl) .nil) _ [] (by (first | exact Hp.le_refl _ | assumption | exact Hp.le_trans ‹_› ‹_›)) rfl
      case hp => refine ⟨?_, rfl⟩; rw [bareB, decide_eq_false (by simpa using hop)]; rfl
      case hS => (repeat (first|exact zR _|(apply zP;focus (repeat (first|exact zH _|apply zT)))|apply zD|exact zA _ _))
     ·have hop : ¬ fam op = 5 := by cases op <;> first | decide | (exfalso; simp [Op.str] at hc21 hg7 hg12 hg17)
      refine cj_skip ?_
      refine hK2 _ _ _ ?_
      refine cj_seq (fun K9 hK9 => ?_)
      refine cj_seq (fun K10 hK10 => ?_)
      refine cj_region ?_
      refine rv0 rfl rfl rfl (y_fieldAddr (k := 0) Try.underlying29 rfl (n := 1) (by decide) Try.sizeOf9 rfl) ?_
      first | refine rv0 rfl rfl rfl (y_load ⟨Try.isAgg9, Try.sizeOf9⟩ rfl (by (repeat (first|exact zH _|apply zT));done) rfl) ?_ | refine rv0 rfl rfl rfl (y_load_slc ⟨Try.isAgg9, Try.sizeOf9⟩ rfl (by (repeat (first|exact zH _|apply zT));done) rfl) ?_
      refine rv0 rfl rfl rfl (y_seql rfl rfl) ?_
      refine rj_nil ?_
      refine hK10 _ _ _ ?_
      refine cj_env (eL 1 rfl (eL 24 rfl eN)) ?_
      refine cj_cond rfl (fun hc24 => ?_) (fun hc24 => ?_)
      ·have hcol : op = .col := Op.str_inj (show op.str = Op.col.str from of_decide_eq_true hc24)
       refine cj_seq (fun K12 hK12 => ?_)
       refine cj_region ?_
       refine rv0 rfl rfl rfl (y_assign rfl) ?_
       refine rj_nil ?_
       refine hK12 _ _ _ ?_
       refine cj_ret ?_
       refine hret _ _ _ ?_
       apply ej_ret Try.results37 (.cons (rv_tmp rfl) .nil) _ [] (by (first | exact Hp.le_refl _ | assumption | exact Hp.le_trans ‹_› ‹_›)) rfl
       case hp => refine ⟨?_, rfl⟩; rw [bareB, decide_eq_true hop, decide_eq_true hcol]; rfl
       case hS => (repeat (first|exact zR _|(apply zP;focus (repeat (first|exact zH _|apply zT)))|apply zD|exact zA _ _))
      ·have hcol : ¬ op = .col := by rintro rfl; simp [Op.str] at hc24
       refine cj_skip ?_
       refine hK9 _ _ _ ?_
       refine cj_seq (fun K13 hK13 => ?_)
       refine cj_seq (fun K14 hK14 => ?_)
       refine cj_region ?_
       refine rv0 rfl rfl rfl (y_assign rfl) ?_
       refine rj_nil ?_
       refine hK14 _ _ _ ?_
       refine cj_block ?_
       refine cj_env (E' := (fun (x : Nat) => [(1, .pointer (some ⟨b1, 0, none⟩)), (3, .int .i64 (x : Int))]) 0) (eC rfl (eC rfl eN)) ?_
       refine cj_sub (M := (fun (x : Nat) => blk b1 (exC op.str v name (.slice q kids.length cap)) 29 :: F) 0) (by (repeat (first|exact zR _|(apply zP;focus (repeat (first|exact zH _|apply zT)))|apply zD|exact zA _ _))) ?_
       refine cj_loop (fun (x : Nat) => [(1, .pointer (some ⟨b1, 0, none⟩)), (3, .int .i64 (x : Int))]) (fun (x : Nat) => R) (fun (x : Nat) => blk b1 (exC op.str v name (.slice q kids.length cap)) 29 :: F) (fun (x : Nat) => x ≤ kids.length ∧ (kids.take x).any bareB = false) (fun (x : Nat) => kids.length - x) 0 (⟨by simp, by simp⟩) ?_
       rintro i ⟨hi, hall⟩
       try dsimp only
       refine cj_seq (fun K15 hK15 => ?_)
       refine cj_seq (fun K16 hK16 => ?_)
       refine cj_region ?_
       refine rv0 rfl rfl rfl (y_move rfl) ?_
       refine rv0 rfl rfl rfl (y_fieldAddr (k := 5) Try.underlying29 rfl (n := 1) (by decide) Try.sizeOf27 rfl) ?_
       first | refine rv0 rfl rfl rfl (y_load ⟨Try.isAgg27, Try.sizeOf27⟩ rfl (by (repeat (first|exact zH _|apply zT));done) rfl) ?_ | refine rv0 rfl rfl rfl (y_load_slc ⟨Try.isAgg27, Try.sizeOf27⟩ rfl (by (repeat (first|exact zH _|apply zT));done) rfl) ?_
       first | refine rv0 rfl rfl rfl (y_len_sl Try.underlying27 rfl) ?_ | refine rv0 rfl rfl rfl (y_len_slc Try.underlying27 rfl (by (repeat (first|exact zH _|apply zT));done)) ?_
       refine rv0 rfl rfl rfl (y_lss rfl rfl) ?_
       refine rj_nil ?_
       refine hK16 _ _ _ ?_
       refine cj_env (eL 1 rfl (eL 3 rfl (eL 29 rfl eN))) ?_
       refine cj_cond rfl (fun hc29 => ?_) (fun hc29 => ?_)
       ·try simp only [dT, dF, nT, nF, tF, fT] at hc29
        refine cj_skip ?_
        refine hK15 _ _ _ ?_
        refine cj_seq (fun K18 hK18 => ?_)
        refine cj_block ?_
        refine cj_seq (fun K19 hK19 => ?_)
        refine cj_region ?_
        obtain ⟨y, hy⟩ : ∃ x, kids[i]? = some x := ⟨kids[i]'(by omega), by simp⟩
        obtain ⟨b, off, cap', cy, he, hrep, hcl, hcell⟩ := hk.at hy
        obtain ⟨rfl, rfl⟩ : q = some ⟨b, off, none⟩ ∧ cap = cap' := by cases he; exact ⟨rfl, rfl⟩
        refine rv0 rfl rfl rfl (y_fieldAddr (k := 5) Try.underlying29 rfl (n := 1) (by decide) Try.sizeOf27 rfl) ?_
        first | refine rv0 rfl rfl rfl (y_load ⟨Try.isAgg27, Try.sizeOf27⟩ rfl (by (repeat (first|exact zH _|apply zT));done) rfl) ?_ | refine rv0 rfl rfl rfl (y_load_slc ⟨Try.isAgg27, Try.sizeOf27⟩ rfl (by (repeat (first|exact zH _|apply zT));done) rfl) ?_
        refine rv0 rfl rfl rfl (y_move rfl) ?_
        first | refine rv0 rfl rfl rfl (y_indexAddr Try.underlying27 Try.sizeOf29 rfl rfl (by (first | omega | (dsimp only; omega) | (simp; done) | (simp; omega)))) ?_ | refine rv0 rfl rfl rfl (y_index_slc Try.underlying27 Try.sizeOf29 rfl rfl (by (repeat (first|exact zH _|apply zT));done) (by (first | omega | (dsimp only; omega) | (simp; done) | (simp; omega)))) ?_
        refine rv0 rfl rfl rfl ((y_loads_ro ⟨Try.isAgg29, Try.sizeOf29⟩ (vs := cy) hcl rfl (fun j u hj => hcell j u hj))) ?_
        refine rv0 rfl rfl rfl (y_call Try.call37 rfl (ih (SizeOf.sizeOf y) (by have := List.sizeOf_lt_of_mem (List.mem_of_getElem? hy); simp at hN; omega) y cy (Nat.le_refl _) hrep) (by (repeat (first|exact zN _|(apply zS;focus (repeat (first|exact zH _|apply zT))))))) ?_
        refine rj_nil ?_
        refine hK19 _ _ _ ?_
        refine cj_env (eL 1 rfl (eL 3 rfl (eL 37 rfl eN))) ?_
        refine cj_cond rfl (fun hc37 => ?_) (fun hc37 => ?_)
        ·try simp only [dT, dF, nT, nF, tF, fT] at hc37
         refine cj_seq (fun K21 hK21 => ?_)
         refine cj_region ?_
         refine rv0 rfl rfl rfl (y_assign rfl) ?_
         refine rj_nil ?_
         refine hK21 _ _ _ ?_
         refine cj_env (eL 2 rfl eN) ?_
         refine cj_ret ?_
         refine hret _ _ _ ?_
         apply ej_ret Try.results37 (.cons (rv_tmp rfl) .nil) _ [] (by (first | exact Hp.le_refl _ | assumption | exact Hp.le_trans ‹_› ‹_›)) rfl
         case hp => refine ⟨?_, rfl⟩; rw [bareB, bareL_any, decide_eq_true hop, decide_eq_false hcol, List.any_eq_true.2 ⟨y, List.mem_of_getElem? hy, hc37⟩]; rfl
         case hS => (repeat (first|exact zR _|(apply zP;focus (repeat (first|exact zH _|apply zT)))|apply zD|exact zA _ _))
        ·try simp only [dT, dF, nT, nF, tF, fT] at hc37
         refine cj_skip ?_
         refine hK18 _ _ _ ?_
         refine cj_region ?_
         refine rv0 rfl rfl rfl (y_move rfl) ?_
         first | refine rv0 rfl rfl rfl (y_add64 rfl rfl (by (first | omega | (dsimp only; omega) | (simp; done) | (simp; omega)))) ?_ | refine rv0 rfl rfl rfl (y_add rfl rfl) ?_
         refine rv0 rfl rfl rfl (y_assign rfl) ?_
         refine rj_nil ?_
         refine ej_on (q' := roundK _ _ _ _ _ _ _) rfl ?_
         refine ej_round (i + 1) (⟨by omega, by rw [List.take_add_one, hy]; simp [hall, hc37]⟩) (by omega) (eC rfl (eC rfl eN)) rfl (by (repeat (first|exact zR _|(apply zP;focus (repeat (first|exact zH _|apply zT)))|apply zD|exact zA _ _)))
       ·try simp only [dT, dF, nT, nF, tF, fT] at hc29
        refine cj_exit ?_
        refine hK13 _ _ _ ?_
        refine cj_env eN ?_
        refine cj_seq (fun K22 hK22 => ?_)
        refine cj_region ?_
        refine rv0 rfl rfl rfl (y_assign rfl) ?_
        refine rj_nil ?_
        refine hK22 _ _ _ ?_
        refine cj_ret ?_
        refine hret _ _ _ ?_
        apply ej_ret Try.results37 (.cons (rv_tmp rfl) .nil) _ [] (by (first | exact Hp.le_refl _ | assumption | exact Hp.le_trans ‹_› ‹_›)) rfl
        case hp => refine ⟨?_, rfl⟩; rw [List.take_of_length_le (by omega)] at hall; rw [bareB, bareL_any, decide_eq_true hop, decide_eq_false hcol, hall]; rfl
        case hS => (repeat (first|exact zR _|(apply zP;focus (repeat (first|exact zH _|apply zT)))|apply zD|exact zA _ _))
end V
end Go.Proofs.Ytghgifgmacapcaa
