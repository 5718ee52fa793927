/- What a log in memory answers, walked; kinds of nodes. -/
import Derived.Test.YtcgjlhhfldkdaaaT8p
import Derived.Test.YtcgjlhhfldkdaaaV20
set_option linter.unusedSimpArgs false
set_option linter.unusedVariables false
set_option maxRecDepth 100000
namespace Go.Proofs.Ytcgjlhhfldkdaaa
open Go.RowKit
namespace V
set_option maxHeartbeats 4000000
def lgC (d : Option Addr) (v : Value) (g : LG) : List Value := [.pointer d, .bool g.down, .int .u64 g.term, .int .i64 g.vote, .int .u64 g.base, .int .u64 g.baseT, .string (str g.state), v]
@[reducible] def lgB (b : Nat) (d : Option Addr) (v : Value) (g : LG) : Asn := blk b (lgC d v g) 58
theorem lgDown_q {R : Hp} (b bd : Nat) (v u : Value) (g : LG) (D : DK) : QTri Try.prog 22 [.pointer (some ⟨b, 0, none⟩)] R [lgB b (some ⟨bd, 0, none⟩) v g, dkB bd u D] (.bool (g.down || D.down)) := by
  refine Tri.q ?_
  unfold lgB lgC
  refine tri_of Try.func22 rfl Try.ntmps22 rfl (fun σ F Q hret hend hpan => ?_)
  try simp only [List.cons_append, List.nil_append]
  refine cj_env (eL 0 rfl eN) ?_
  refine cj_seq (fun K1 hK1 => ?_)
  refine cj_region ?_
  refine rv0 rfl rfl rfl (y_assign rfl) ?_
  refine rj_nil ?_
  refine hK1 _ _ _ ?_
  refine cj_seq (fun K2 hK2 => ?_)
  refine cj_region ?_
  refine rv0 rfl rfl rfl (y_move rfl) ?_
  refine rv0 rfl rfl rfl (y_peql Try.underlying31 rfl rfl) ?_
  refine rv0 rfl rfl rfl (y_move rfl) ?_
  refine rj_val (wn1 rfl rfl rfl rfl) rfl rfl (y_move rfl) ?_
  refine rj_val (wn1 rfl rfl rfl rfl) rfl rfl (y_nilCheck rfl) ?_
  refine rj_val (wn1 rfl rfl rfl rfl) rfl rfl (y_fieldAddr (k := 1) Try.underlying58 rfl (n := 1) (by decide) Try.sizeOf4 rfl) ?_
  first | refine rj_val (wn1 rfl rfl rfl rfl) rfl rfl (y_load ⟨Try.isAgg4, Try.sizeOf4⟩ rfl (by (repeat (first|exact zH _|apply zT));done) rfl) ?_ | refine rj_val (wn1 rfl rfl rfl rfl) rfl rfl (y_load_slc ⟨Try.isAgg4, Try.sizeOf4⟩ rfl (by (repeat (first|exact zH _|apply zT));done) rfl) ?_
  refine rv0 rfl rfl rfl (y_pick_f rfl rfl) ?_
  refine rv0 rfl rfl rfl (y_move rfl) ?_
  refine rj_part 11 rfl (fun hg11 => ?_) (fun hg11 => ?_)
  ·try simp only [dT, dF, nT, nF, tF, fT] at hg11
   refine rj_skip (wn2 rfl rfl rfl rfl rfl) rfl rfl ?_
   refine rj_skip (wn2 rfl rfl rfl rfl rfl) rfl rfl ?_
   refine rj_skip (wn2 rfl rfl rfl rfl rfl) rfl rfl ?_
   refine rj_skip (wn2 rfl rfl rfl rfl rfl) rfl rfl ?_
   refine rj_skip (wn2 rfl rfl rfl rfl rfl) rfl rfl ?_
   refine rv0 rfl rfl rfl (y_pick_t rfl rfl) ?_
   refine rv0 rfl rfl rfl (y_assign rfl) ?_
   refine rj_nil ?_
   refine hK2 _ _ _ ?_
   refine cj_env (eL 2 rfl eN) ?_
   refine cj_ret ?_
   refine hret _ _ _ ?_
   apply ej_ret Try.results22 (.cons (rv_tmp rfl) .nil) _ [lgB b (some ⟨bd, 0, none⟩) v g, dkB bd u D] (by (first | exact Hp.le_refl _ | assumption | exact Hp.le_trans ‹_› ‹_›)) rfl
   case hp => refine ⟨?_, rfl, rfl⟩; simp_all [tupOf]
   case hS => (repeat (first|exact zR _|(apply zP;focus (repeat (first|exact zH _|apply zT)))|apply zD|exact zA _ _))
  ·try simp only [dT, dF, nT, nF, tF, fT] at hg11
   refine rj_val (wn1 rfl rfl rfl rfl) rfl rfl (y_move rfl) ?_
   refine rj_val (wn1 rfl rfl rfl rfl) rfl rfl (y_nilCheck rfl) ?_
   refine rj_val (wn1 rfl rfl rfl rfl) rfl rfl (y_fieldAddr (k := 0) Try.underlying58 rfl (n := 1) (by decide) Try.sizeOf29 rfl) ?_
   first | refine rj_val (wn1 rfl rfl rfl rfl) rfl rfl (y_load ⟨Try.isAgg29, Try.sizeOf29⟩ rfl (by (repeat (first|exact zH _|apply zT));done) rfl) ?_ | refine rj_val (wn1 rfl rfl rfl rfl) rfl rfl (y_load_slc ⟨Try.isAgg29, Try.sizeOf29⟩ rfl (by (repeat (first|exact zH _|apply zT));done) rfl) ?_
   refine rj_val (wn1 rfl rfl rfl rfl) rfl rfl (y_call Try.call31 rfl (down_q bd u D) (by (repeat (first|exact zN _|(apply zS;focus (repeat (first|exact zH _|apply zT))))))) ?_
   refine rv0 rfl rfl rfl (y_pick_f rfl rfl) ?_
   refine rv0 rfl rfl rfl (y_assign rfl) ?_
   refine rj_nil ?_
   refine hK2 _ _ _ ?_
   refine cj_env (eL 2 rfl eN) ?_
   refine cj_ret ?_
   refine hret _ _ _ ?_
   apply ej_ret Try.results22 (.cons (rv_tmp rfl) .nil) _ [lgB b (some ⟨bd, 0, none⟩) v g, dkB bd u D] (by (first | exact Hp.le_refl _ | assumption | exact Hp.le_trans ‹_› ‹_›)) rfl
   case hp => refine ⟨?_, rfl, rfl⟩; simp_all [tupOf]
   case hS => (repeat (first|exact zR _|(apply zP;focus (repeat (first|exact zH _|apply zT)))|apply zD|exact zA _ _))
theorem lgTerm_q {R : Hp} (b : Nat) (d : Option Addr) (v : Value) (g : LG) : QTri Try.prog 16 [.pointer (some ⟨b, 0, none⟩)] R [lgB b d v g] (.int .u64 g.term) := by
  refine Tri.q ?_
  unfold lgB lgC
  refine tri_of Try.func16 rfl Try.ntmps16 rfl (fun σ F Q hret hend hpan => ?_)
  try simp only [List.cons_append, List.nil_append]
  refine cj_env (eL 0 rfl eN) ?_
  refine cj_seq (fun K1 hK1 => ?_)
  refine cj_region ?_
  refine rv0 rfl rfl rfl (y_assign rfl) ?_
  refine rj_nil ?_
  refine hK1 _ _ _ ?_
  refine cj_seq (fun K2 hK2 => ?_)
  refine cj_seq (fun K3 hK3 => ?_)
  refine cj_region ?_
  refine rv0 rfl rfl rfl (y_move rfl) ?_
  refine rv0 rfl rfl rfl (y_peql Try.underlying31 rfl rfl) ?_
  refine rj_nil ?_
  refine hK3 _ _ _ ?_
  refine cj_cond_f rfl ?_
  refine cj_skip ?_
  refine hK2 _ _ _ ?_
  refine cj_env (eL 0 rfl eN) ?_
  refine cj_seq (fun K4 hK4 => ?_)
  refine cj_region ?_
  refine rv0 rfl rfl rfl (y_move rfl) ?_
  refine rv0 rfl rfl rfl (y_nilCheck rfl) ?_
  refine rv0 rfl rfl rfl (y_fieldAddr (k := 2) Try.underlying58 rfl (n := 1) (by decide) Try.sizeOf25 rfl) ?_
  first | refine rv0 rfl rfl rfl (y_load ⟨Try.isAgg25, Try.sizeOf25⟩ rfl (by (repeat (first|exact zH _|apply zT));done) rfl) ?_ | refine rv0 rfl rfl rfl (y_load_slc ⟨Try.isAgg25, Try.sizeOf25⟩ rfl (by (repeat (first|exact zH _|apply zT));done) rfl) ?_
  refine rv0 rfl rfl rfl (y_assign rfl) ?_
  refine rj_nil ?_
  refine hK4 _ _ _ ?_
  refine cj_env (eL 2 rfl eN) ?_
  refine cj_ret ?_
  refine hret _ _ _ ?_
  apply ej_ret Try.results16 (.cons (rv_tmp rfl) .nil) _ [lgB b d v g] (by (first | exact Hp.le_refl _ | assumption | exact Hp.le_trans ‹_› ‹_›)) rfl
  case hp => exact ⟨rfl, rfl, rfl⟩
  case hS => (repeat (first|exact zR _|(apply zP;focus (repeat (first|exact zH _|apply zT)))|apply zD|exact zA _ _))
theorem lgVote_q {R : Hp} (b : Nat) (d : Option Addr) (v : Value) (g : LG) : QTri Try.prog 17 [.pointer (some ⟨b, 0, none⟩)] R [lgB b d v g] (.int .i64 g.vote) := by
  refine Tri.q ?_
  unfold lgB lgC
  refine tri_of Try.func17 rfl Try.ntmps17 rfl (fun σ F Q hret hend hpan => ?_)
  try simp only [List.cons_append, List.nil_append]
  refine cj_env (eL 0 rfl eN) ?_
  refine cj_seq (fun K1 hK1 => ?_)
  refine cj_region ?_
  refine rv0 rfl rfl rfl (y_assign rfl) ?_
  refine rj_nil ?_
  refine hK1 _ _ _ ?_
  refine cj_seq (fun K2 hK2 => ?_)
  refine cj_seq (fun K3 hK3 => ?_)
  refine cj_region ?_
  refine rv0 rfl rfl rfl (y_move rfl) ?_
  refine rv0 rfl rfl rfl (y_peql Try.underlying31 rfl rfl) ?_
  refine rj_nil ?_
  refine hK3 _ _ _ ?_
  refine cj_cond_f rfl ?_
  refine cj_skip ?_
  refine hK2 _ _ _ ?_
  refine cj_env (eL 0 rfl eN) ?_
  refine cj_seq (fun K4 hK4 => ?_)
  refine cj_region ?_
  refine rv0 rfl rfl rfl (y_move rfl) ?_
  refine rv0 rfl rfl rfl (y_nilCheck rfl) ?_
  refine rv0 rfl rfl rfl (y_fieldAddr (k := 3) Try.underlying58 rfl (n := 1) (by decide) Try.sizeOf3 rfl) ?_
  first | refine rv0 rfl rfl rfl (y_load ⟨Try.isAgg3, Try.sizeOf3⟩ rfl (by (repeat (first|exact zH _|apply zT));done) rfl) ?_ | refine rv0 rfl rfl rfl (y_load_slc ⟨Try.isAgg3, Try.sizeOf3⟩ rfl (by (repeat (first|exact zH _|apply zT));done) rfl) ?_
  refine rv0 rfl rfl rfl (y_assign rfl) ?_
  refine rj_nil ?_
  refine hK4 _ _ _ ?_
  refine cj_env (eL 2 rfl eN) ?_
  refine cj_ret ?_
  refine hret _ _ _ ?_
  apply ej_ret Try.results17 (.cons (rv_tmp rfl) .nil) _ [lgB b d v g] (by (first | exact Hp.le_refl _ | assumption | exact Hp.le_trans ‹_› ‹_›)) rfl
  case hp => exact ⟨rfl, rfl, rfl⟩
  case hS => (repeat (first|exact zR _|(apply zP;focus (repeat (first|exact zH _|apply zT)))|apply zD|exact zA _ _))
theorem lgBase_q {R : Hp} (b : Nat) (d : Option Addr) (v : Value) (g : LG) : QTri Try.prog 29 [.pointer (some ⟨b, 0, none⟩)] R [lgB b d v g] (tupOf [.int .u64 g.base, .int .u64 g.baseT, .string (str g.state)]) := by
  refine Tri.q ?_
  unfold lgB lgC
  refine tri_of Try.func29 rfl Try.ntmps29 rfl (fun σ F Q hret hend hpan => ?_)
  try simp only [List.cons_append, List.nil_append]
  refine cj_env (eL 0 rfl eN) ?_
  refine cj_seq (fun K1 hK1 => ?_)
  refine cj_region ?_
  refine rv0 rfl rfl rfl (y_assign rfl) ?_
  refine rv0 rfl rfl rfl (y_assign rfl) ?_
  refine rv0 rfl rfl rfl (y_assign rfl) ?_
  refine rj_nil ?_
  refine hK1 _ _ _ ?_
  refine cj_env (eL 0 rfl eN) ?_
  refine cj_seq (fun K2 hK2 => ?_)
  refine cj_seq (fun K3 hK3 => ?_)
  refine cj_region ?_
  refine rv0 rfl rfl rfl (y_move rfl) ?_
  refine rv0 rfl rfl rfl (y_peql Try.underlying31 rfl rfl) ?_
  refine rj_nil ?_
  refine hK3 _ _ _ ?_
  refine cj_cond_f rfl ?_
  refine cj_skip ?_
  refine hK2 _ _ _ ?_
  refine cj_seq (fun K4 hK4 => ?_)
  refine cj_draw (by kernel_rfl) (by kernel_rfl) ?_
  refine qj_val (wn0 rfl) rfl rfl (y_move rfl) ?_
  refine qj_val (wn0 rfl) rfl rfl (y_nilCheck rfl) ?_
  refine qj_val (wn0 rfl) rfl rfl (y_fieldAddr (k := 4) Try.underlying58 rfl (n := 1) (by decide) Try.sizeOf25 rfl) ?_
  first | refine qj_val (wn0 rfl) rfl rfl (y_load ⟨Try.isAgg25, Try.sizeOf25⟩ rfl (by (repeat (first|exact zH _|apply zT));done) rfl) ?_ | refine qj_val (wn0 rfl) rfl rfl (y_load_slc ⟨Try.isAgg25, Try.sizeOf25⟩ rfl (by (repeat (first|exact zH _|apply zT));done) rfl) ?_
  refine qj_val (wn0 rfl) rfl rfl (y_move rfl) ?_
  refine qj_val (wn0 rfl) rfl rfl (y_nilCheck rfl) ?_
  refine qj_val (wn0 rfl) rfl rfl (y_fieldAddr (k := 5) Try.underlying58 rfl (n := 1) (by decide) Try.sizeOf25 rfl) ?_
  first | refine qj_val (wn0 rfl) rfl rfl (y_load ⟨Try.isAgg25, Try.sizeOf25⟩ rfl (by (repeat (first|exact zH _|apply zT));done) rfl) ?_ | refine qj_val (wn0 rfl) rfl rfl (y_load_slc ⟨Try.isAgg25, Try.sizeOf25⟩ rfl (by (repeat (first|exact zH _|apply zT));done) rfl) ?_
  refine qj_val (wn0 rfl) rfl rfl (y_move rfl) ?_
  refine qj_val (wn0 rfl) rfl rfl (y_nilCheck rfl) ?_
  refine qj_val (wn0 rfl) rfl rfl (y_fieldAddr (k := 6) Try.underlying58 rfl (n := 1) (by decide) Try.sizeOf9 rfl) ?_
  first | refine qj_val (wn0 rfl) rfl rfl (y_load ⟨Try.isAgg9, Try.sizeOf9⟩ rfl (by (repeat (first|exact zH _|apply zT));done) rfl) ?_ | refine qj_val (wn0 rfl) rfl rfl (y_load_slc ⟨Try.isAgg9, Try.sizeOf9⟩ rfl (by (repeat (first|exact zH _|apply zT));done) rfl) ?_
  refine qj_val (wn0 rfl) rfl rfl (y_assign rfl) ?_
  refine qj_val (wn0 rfl) rfl rfl (y_assign rfl) ?_
  refine qj_val (wn0 rfl) rfl rfl (y_assign rfl) ?_
  refine qj_nil ?_
  refine hK4 _ _ _ ?_
  refine cj_env (eL 2 rfl (eL 3 rfl (eL 4 rfl eN))) ?_
  refine cj_ret ?_
  refine hret _ _ _ ?_
  apply ej_ret Try.results29 (.cons (rv_tmp rfl) (.cons (rv_tmp rfl) (.cons (rv_tmp rfl) .nil))) _ [lgB b d v g] (by (first | exact Hp.le_refl _ | assumption | exact Hp.le_trans ‹_› ‹_›)) rfl
  case hp => exact ⟨rfl, rfl, rfl⟩
  case hS => (repeat (first|exact zR _|(apply zP;focus (repeat (first|exact zH _|apply zT)))|apply zD|exact zA _ _))
theorem lgLast_q {R : Hp} (b : Nat) (d : Option Addr) (v : Value) (g : LG) (hg : g.ok) (hv : FrX entE R g.all v) : QTri Try.prog 15 [.pointer (some ⟨b, 0, none⟩)] R [lgB b d v g] (.int .u64 g.last) := by
  obtain ⟨q, cap, rfl, _, _⟩ := hv.shape
  have hb := hg.base
  have hn := hg.alln
  refine Tri.q ?_
  unfold lgB lgC
  refine tri_of Try.func15 rfl Try.ntmps15 rfl (fun σ F Q hret hend hpan => ?_)
  try simp only [List.cons_append, List.nil_append]
  refine cj_env (eL 0 rfl eN) ?_
  refine cj_seq (fun K1 hK1 => ?_)
  refine cj_region ?_
  refine rv0 rfl rfl rfl (y_assign rfl) ?_
  refine rj_nil ?_
  refine hK1 _ _ _ ?_
  refine cj_seq (fun K2 hK2 => ?_)
  refine cj_seq (fun K3 hK3 => ?_)
  refine cj_region ?_
  refine rv0 rfl rfl rfl (y_move rfl) ?_
  refine rv0 rfl rfl rfl (y_peql Try.underlying31 rfl rfl) ?_
  refine rj_nil ?_
  refine hK3 _ _ _ ?_
  refine cj_cond_f rfl ?_
  refine cj_skip ?_
  refine hK2 _ _ _ ?_
  refine cj_env (eL 0 rfl eN) ?_
  refine cj_seq (fun K4 hK4 => ?_)
  refine cj_draw (by kernel_rfl) (by kernel_rfl) ?_
  refine qj_val (wn0 rfl) rfl rfl (y_move rfl) ?_
  refine qj_val (wn0 rfl) rfl rfl (y_nilCheck rfl) ?_
  refine qj_val (wn0 rfl) rfl rfl (y_fieldAddr (k := 4) Try.underlying58 rfl (n := 1) (by decide) Try.sizeOf25 rfl) ?_
  first | refine qj_val (wn0 rfl) rfl rfl (y_load ⟨Try.isAgg25, Try.sizeOf25⟩ rfl (by (repeat (first|exact zH _|apply zT));done) rfl) ?_ | refine qj_val (wn0 rfl) rfl rfl (y_load_slc ⟨Try.isAgg25, Try.sizeOf25⟩ rfl (by (repeat (first|exact zH _|apply zT));done) rfl) ?_
  refine qj_val (wn0 rfl) rfl rfl (y_move rfl) ?_
  refine qj_val (wn0 rfl) rfl rfl (y_nilCheck rfl) ?_
  refine qj_val (wn0 rfl) rfl rfl (y_fieldAddr (k := 7) Try.underlying58 rfl (n := 1) (by decide) Try.sizeOf22 rfl) ?_
  first | refine qj_val (wn0 rfl) rfl rfl (y_load ⟨Try.isAgg22, Try.sizeOf22⟩ rfl (by (repeat (first|exact zH _|apply zT));done) rfl) ?_ | refine qj_val (wn0 rfl) rfl rfl (y_load_slc ⟨Try.isAgg22, Try.sizeOf22⟩ rfl (by (repeat (first|exact zH _|apply zT));done) rfl) ?_
  first | refine qj_val (wn0 rfl) rfl rfl (y_len_sl Try.underlying22 rfl) ?_ | refine qj_val (wn0 rfl) rfl rfl (y_len_slc Try.underlying22 rfl (by (repeat (first|exact zH _|apply zT));done)) ?_
  first | refine qj_val (wn0 rfl) rfl rfl (y_conv_in Try.underlying3 Try.underlying25 rfl (by (simp only [IntKind.min, IntKind.max, IntKind.signed, IntKind.bits, Bool.false_eq_true, ite_false, ite_true]; omega))) ?_ | refine qj_val (wn0 rfl) rfl rfl (y_conv Try.underlying3 Try.underlying25 rfl) ?_
  first | refine qj_val (wn0 rfl) rfl rfl (y_addu rfl rfl (by (first | omega | (dsimp only; omega) | (simp; done) | (simp; omega)))) ?_ | refine qj_val (wn0 rfl) rfl rfl (y_add rfl rfl) ?_
  refine qj_val (wn0 rfl) rfl rfl (y_assign rfl) ?_
  refine qj_nil ?_
  refine hK4 _ _ _ ?_
  refine cj_env (eL 2 rfl eN) ?_
  refine cj_ret ?_
  refine hret _ _ _ ?_
  apply ej_ret Try.results15 (.cons (rv_tmp rfl) .nil) _ [lgB b d (.slice q g.all.length cap) g] (by (first | exact Hp.le_refl _ | assumption | exact Hp.le_trans ‹_› ‹_›)) rfl
  case hp => exact ⟨rfl, rfl, rfl⟩
  case hS => (repeat (first|exact zR _|(apply zP;focus (repeat (first|exact zH _|apply zT)))|apply zD|exact zA _ _))
def entV (o : Option Ent) : Value := match o with
  | some e => tupOf [.agg ⟨entC e⟩, .bool true]
  | none => tupOf [.agg ⟨entC (0, [])⟩, .bool false]
def numV (o : Option Int) : Value := match o with
  | some e => tupOf [.int .u64 e, .bool true]
  | none => tupOf [.int .u64 0, .bool false]
theorem lgAt_q {R : Hp} (b : Nat) (d : Option Addr) (v : Value) (g : LG) (hg : g.ok) (hv : FrX entE R g.all v) (i : Int) (hi : u64B i) : QTri Try.prog 14 [.pointer (some ⟨b, 0, none⟩), .int .u64 i] R [lgB b d v g] (entV (g.at i)) := by
  obtain ⟨q, cap, rfl, _, _⟩ := hv.shape
  have hb := hg.base
  have hn := hg.alln
  have hl := lgLast_q (R := R) b d _ g hg hv
  have hle : g.last = g.base + g.all.length := rfl
  unfold u64B at hi
  refine Tri.q2 ?_
  unfold lgB lgC at hl ⊢
  refine tri_of Try.func14 rfl Try.ntmps14 rfl (fun σ F Q hret hend hpan => ?_)
  try simp only [List.cons_append, List.nil_append]
  refine cj_env (eL 0 rfl (eL 1 rfl eN)) ?_
  refine cj_seq (fun K1 hK1 => ?_)
  refine cj_region ?_
  refine rj_alloc (wn0 rfl) rfl Try.zeroValue37 rfl (fun b4 => ?_)
  refine rv0 rfl rfl rfl (y_assign rfl) ?_
  refine rj_nil ?_
  refine hK1 _ _ _ ?_
  refine cj_seq (fun K2 hK2 => ?_)
  refine cj_seq (fun K3 hK3 => ?_)
  refine cj_region ?_
  refine rv0 rfl rfl rfl (y_move rfl) ?_
  refine rv0 rfl rfl rfl (y_peql Try.underlying31 rfl rfl) ?_
  refine rv0 rfl rfl rfl (y_move rfl) ?_
  refine rj_val (wn1 rfl rfl rfl rfl) rfl rfl (y_move rfl) ?_
  refine rj_val (wn1 rfl rfl rfl rfl) rfl rfl (y_move rfl) ?_
  refine rj_val (wn1 rfl rfl rfl rfl) rfl rfl (y_nilCheck rfl) ?_
  refine rj_val (wn1 rfl rfl rfl rfl) rfl rfl (y_fieldAddr (k := 4) Try.underlying58 rfl (n := 1) (by decide) Try.sizeOf25 rfl) ?_
  first | refine rj_val (wn1 rfl rfl rfl rfl) rfl rfl (y_load ⟨Try.isAgg25, Try.sizeOf25⟩ rfl (by (repeat (first|exact zH _|apply zT));done) rfl) ?_ | refine rj_val (wn1 rfl rfl rfl rfl) rfl rfl (y_load_slc ⟨Try.isAgg25, Try.sizeOf25⟩ rfl (by (repeat (first|exact zH _|apply zT));done) rfl) ?_
  refine rj_val (wn1 rfl rfl rfl rfl) rfl rfl (y_leq rfl rfl) ?_
  refine rv0 rfl rfl rfl (y_pick_f rfl rfl) ?_
  refine rv0 rfl rfl rfl (y_move rfl) ?_
  refine rj_part 16 rfl (fun hg16 => ?_) (fun hg16 => ?_)
  ·have f1 : ¬ g.base < i := by (try simp at hg16); omega
   refine rj_skip (wn2 rfl rfl rfl rfl rfl) rfl rfl ?_
   refine rj_skip (wn2 rfl rfl rfl rfl rfl) rfl rfl ?_
   refine rj_skip (wn2 rfl rfl rfl rfl rfl) rfl rfl ?_
   refine rj_skip (wn2 rfl rfl rfl rfl rfl) rfl rfl ?_
   refine rv0 rfl rfl rfl (y_pick_t rfl rfl) ?_
   refine rj_nil ?_
   refine hK3 _ _ _ ?_
   refine cj_env (eL 0 rfl (eL 1 rfl (eL 4 rfl (eL 21 rfl eN)))) ?_
   refine cj_cond_t rfl ?_
   refine cj_seq (fun K4 hK4 => ?_)
   refine cj_region ?_
   refine rv0 rfl rfl rfl (y_build (cells := [_, _]) [(0, 1), (1, 1)] Try.underlying37 Try.zeroValue37 (fun _ => rfl) rfl rfl) ?_
   refine rj_stores_all (vs := entC (0, [])) ⟨Try.isAgg37, Try.sizeOf37⟩ rfl (wn0 rfl) rfl rfl (entE.one (R := R) (x := (0, [])) rfl) (by (repeat (first|exact zH _|apply zT));done) rfl ?_
   refine rv0 rfl rfl rfl (y_assign rfl) ?_
   refine rj_nil ?_
   refine hK4 _ _ _ ?_
   refine cj_env (eL 4 rfl (eL 5 rfl eN)) ?_
   refine cj_ret ?_
   refine hret _ _ _ ?_
   apply ej_ret Try.results14 (.cons (rv_cells ⟨Try.isAgg37, Try.sizeOf37⟩ rfl (by (repeat (first|exact zH _|apply zT));done) rfl rfl) (.cons (rv_tmp rfl) .nil)) _ [lgB b d (.slice q g.all.length cap) g] (by (first | exact Hp.le_refl _ | assumption | exact Hp.le_trans ‹_› ‹_›)) rfl
   case hp => rw [show g.at i = none by unfold LG.at; rw [if_neg (fun h => f1 h.1)]]; exact ⟨rfl, rfl⟩
   case hS => (repeat (first|exact zR _|(apply zP;focus (repeat (first|exact zH _|apply zT)))|apply zD|exact zA _ _))
  ·have f1 : g.base < i := by (try simp at hg16); omega
   refine rj_val (wn1 rfl rfl rfl rfl) rfl rfl (y_move rfl) ?_
   refine rj_val (wn1 rfl rfl rfl rfl) rfl rfl (y_move rfl) ?_
   refine rj_val (wn1 rfl rfl rfl rfl) rfl rfl (y_call Try.call15 rfl (hl) (by (repeat (first|exact zN _|(apply zS;focus (repeat (first|exact zH _|apply zT))))))) ?_
   refine rj_val (wn1 rfl rfl rfl rfl) rfl rfl (y_gtr rfl rfl) ?_
   refine rv0 rfl rfl rfl (y_pick_f rfl rfl) ?_
   refine rj_nil ?_
   refine hK3 _ _ _ ?_
   refine cj_env (eL 0 rfl (eL 1 rfl (eL 4 rfl (eL 21 rfl eN)))) ?_
   refine cj_cond rfl (fun hc21 => ?_) (fun hc21 => ?_)
   ·have f2 : ¬ i ≤ g.last := by (try simp at hc21); omega
    refine cj_seq (fun K6 hK6 => ?_)
    refine cj_region ?_
    refine rv0 rfl rfl rfl (y_build (cells := [_, _]) [(0, 1), (1, 1)] Try.underlying37 Try.zeroValue37 (fun _ => rfl) rfl rfl) ?_
    refine rj_stores_all (vs := entC (0, [])) ⟨Try.isAgg37, Try.sizeOf37⟩ rfl (wn0 rfl) rfl rfl (entE.one (R := R) (x := (0, [])) rfl) (by (repeat (first|exact zH _|apply zT));done) rfl ?_
    refine rv0 rfl rfl rfl (y_assign rfl) ?_
    refine rj_nil ?_
    refine hK6 _ _ _ ?_
    refine cj_env (eL 4 rfl (eL 5 rfl eN)) ?_
    refine cj_ret ?_
    refine hret _ _ _ ?_
    apply ej_ret Try.results14 (.cons (rv_cells ⟨Try.isAgg37, Try.sizeOf37⟩ rfl (by (repeat (first|exact zH _|apply zT));done) rfl rfl) (.cons (rv_tmp rfl) .nil)) _ [lgB b d (.slice q g.all.length cap) g] (by (first | exact Hp.le_refl _ | assumption | exact Hp.le_trans ‹_› ‹_›)) rfl
    case hp => rw [show g.at i = none by unfold LG.at; rw [if_neg (fun h => f2 h.2)]]; exact ⟨rfl, rfl⟩
    case hS => (repeat (first|exact zR _|(apply zP;focus (repeat (first|exact zH _|apply zT)))|apply zD|exact zA _ _))
   ·have f2 : i ≤ g.last := by (try simp at hc21); omega
    refine cj_skip ?_
    refine hK2 _ _ _ ?_
    refine cj_seq (fun K7 hK7 => ?_)
    have hat : g.at i = g.all[(i - g.base - 1).toNat]? := by unfold LG.at; rw [if_pos ⟨f1, f2⟩]
    obtain ⟨e, he⟩ : ∃ e, g.all[(i - g.base - 1).toNat]? = some e := ⟨_, List.getElem?_eq_getElem (by omega)⟩
    obtain ⟨be, oe, ce, cse, hee, rfl, _, hcell⟩ := hv.at he
    obtain ⟨rfl, rfl⟩ : q = some ⟨be, oe, none⟩ ∧ cap = ce := by cases hee; exact ⟨rfl, rfl⟩
    refine cj_mixg (L := [blk b [.pointer d, .bool g.down, .int .u64 g.term, .int .i64 g.vote, .int .u64 g.base, .int .u64 g.baseT, .string (str g.state), .slice (some ⟨be, oe, none⟩) g.all.length cap] 58]) [0, 1, 2, 3, 4, 5, 6, 7, 8, 9, 10, 11, 12] [] [13, 14] _ (by (repeat (first|exact zR _|(apply zP;focus (repeat (first|exact zH _|apply zT)))|apply zD|exact zA _ _))) (by kernel_rfl) (by kernel_rfl) (by kernel_rfl) rfl ?_
    refine fj_val rfl rfl rfl (wn0 rfl) (fun R1 hR1 G => (y_move rfl)) ?_
    refine fj_val rfl rfl rfl (wn0 rfl) (fun R1 hR1 G => (y_nilCheck rfl)) ?_
    refine fj_val rfl rfl rfl (wn0 rfl) (fun R1 hR1 G => (y_fieldAddr (k := 7) Try.underlying58 rfl (n := 1) (by decide) Try.sizeOf22 rfl)) ?_
    first | refine fj_val rfl rfl rfl (wn0 rfl) (fun R1 hR1 G => (y_load ⟨Try.isAgg22, Try.sizeOf22⟩ rfl (by (repeat (first|exact zH _|apply zT));done) rfl)) ?_ | refine fj_val rfl rfl rfl (wn0 rfl) (fun R1 hR1 G => (y_load_slc ⟨Try.isAgg22, Try.sizeOf22⟩ rfl (by (repeat (first|exact zH _|apply zT));done) rfl)) ?_
    refine fj_val rfl rfl rfl (wn0 rfl) (fun R1 hR1 G => (y_move rfl)) ?_
    refine fj_val rfl rfl rfl (wn0 rfl) (fun R1 hR1 G => (y_move rfl)) ?_
    refine fj_val rfl rfl rfl (wn0 rfl) (fun R1 hR1 G => (y_nilCheck rfl)) ?_
    refine fj_val rfl rfl rfl (wn0 rfl) (fun R1 hR1 G => (y_fieldAddr (k := 4) Try.underlying58 rfl (n := 1) (by decide) Try.sizeOf25 rfl)) ?_
    first | refine fj_val rfl rfl rfl (wn0 rfl) (fun R1 hR1 G => (y_load ⟨Try.isAgg25, Try.sizeOf25⟩ rfl (by (repeat (first|exact zH _|apply zT));done) rfl)) ?_ | refine fj_val rfl rfl rfl (wn0 rfl) (fun R1 hR1 G => (y_load_slc ⟨Try.isAgg25, Try.sizeOf25⟩ rfl (by (repeat (first|exact zH _|apply zT));done) rfl)) ?_
    refine fj_val rfl rfl rfl (wn0 rfl) (fun R1 hR1 G => (y_subu rfl rfl (by omega))) ?_
    refine fj_val rfl rfl rfl (wn0 rfl) (fun R1 hR1 G => (y_subu rfl rfl (by omega))) ?_
    first | refine fj_val rfl rfl rfl (wn0 rfl) (fun R1 hR1 G => (y_indexAddr Try.underlying22 Try.sizeOf37 rfl rfl (by (first | omega | (dsimp only; omega) | (simp; done) | (simp; omega))))) ?_ | refine fj_val rfl rfl rfl (wn0 rfl) (fun R1 hR1 G => (y_index_slc Try.underlying22 Try.sizeOf37 rfl rfl (by (repeat (first|exact zH _|apply zT));done) (by (first | omega | (dsimp only; omega) | (simp; done) | (simp; omega))))) ?_
    refine fj_val rfl rfl rfl (wn0 rfl) (fun R1 hR1 G => (y_loads_ro ⟨Try.isAgg37, Try.sizeOf37⟩ (vs := entC e) rfl rfl (fun j u hj => cell_mono hR1 (hcell j u hj)))) ?_
    refine fj_nil ?_
    refine xj_nil ?_
    try simp only [List.cons_append, List.nil_append, List.append_nil]
    refine rj_stores_all (vs := entC e) ⟨Try.isAgg37, Try.sizeOf37⟩ rfl (wn0 rfl) rfl rfl (entE.one (R := R) (x := e) rfl) (by (repeat (first|exact zH _|apply zT));done) rfl ?_
    refine rv0 rfl rfl rfl (y_assign rfl) ?_
    refine rj_nil ?_
    refine hK7 _ _ _ ?_
    refine cj_env (eL 4 rfl (eL 5 rfl eN)) ?_
    refine cj_ret ?_
    refine hret _ _ _ ?_
    apply ej_ret Try.results14 (.cons (rv_cells ⟨Try.isAgg37, Try.sizeOf37⟩ rfl (by (repeat (first|exact zH _|apply zT));done) rfl rfl) (.cons (rv_tmp rfl) .nil)) _ [lgB b d (.slice (some ⟨be, oe, none⟩) g.all.length cap) g] (by (first | exact Hp.le_refl _ | assumption | exact Hp.le_trans ‹_› ‹_›)) rfl
    case hp => rw [hat, he]; exact ⟨rfl, rfl⟩
    case hS => (repeat (first|exact zR _|(apply zP;focus (repeat (first|exact zH _|apply zT)))|apply zD|exact zA _ _))
theorem lgTermAt_q {R : Hp} (b : Nat) (d : Option Addr) (v : Value) (g : LG) (hg : g.ok) (hv : FrX entE R g.all v) (i : Int) (hi : u64B i) : QTri Try.prog 30 [.pointer (some ⟨b, 0, none⟩), .int .u64 i] R [lgB b d v g] (numV (g.termAt i)) := by
  have ha := lgAt_q (R := R) b d v g hg hv i hi
  have hvo := hv.one
  refine Tri.q2 ?_
  unfold lgB lgC at ha ⊢
  refine tri_of Try.func30 rfl Try.ntmps30 rfl (fun σ F Q hret hend hpan => ?_)
  try simp only [List.cons_append, List.nil_append]
  refine cj_env (eL 0 rfl (eL 1 rfl eN)) ?_
  refine cj_seq (fun K1 hK1 => ?_)
  refine cj_region ?_
  refine rv0 rfl rfl rfl (y_assign rfl) ?_
  refine rv0 rfl rfl rfl (y_assign rfl) ?_
  refine rj_nil ?_
  refine hK1 _ _ _ ?_
  refine cj_seq (fun K2 hK2 => ?_)
  refine cj_seq (fun K3 hK3 => ?_)
  refine cj_region ?_
  refine rv0 rfl rfl rfl (y_move rfl) ?_
  refine rv0 rfl rfl rfl (y_pneq Try.underlying31 rfl rfl) ?_
  refine rv0 rfl rfl rfl (y_move rfl) ?_
  refine rj_val (wn1 rfl rfl rfl rfl) rfl rfl (y_move rfl) ?_
  refine rj_val (wn1 rfl rfl rfl rfl) rfl rfl (y_move rfl) ?_
  refine rj_val (wn1 rfl rfl rfl rfl) rfl rfl (y_nilCheck rfl) ?_
  refine rj_val (wn1 rfl rfl rfl rfl) rfl rfl (y_fieldAddr (k := 4) Try.underlying58 rfl (n := 1) (by decide) Try.sizeOf25 rfl) ?_
  first | refine rj_val (wn1 rfl rfl rfl rfl) rfl rfl (y_load ⟨Try.isAgg25, Try.sizeOf25⟩ rfl (by (repeat (first|exact zH _|apply zT));done) rfl) ?_ | refine rj_val (wn1 rfl rfl rfl rfl) rfl rfl (y_load_slc ⟨Try.isAgg25, Try.sizeOf25⟩ rfl (by (repeat (first|exact zH _|apply zT));done) rfl) ?_
  refine rj_val (wn1 rfl rfl rfl rfl) rfl rfl (y_eql rfl rfl) ?_
  refine rv0 rfl rfl rfl (y_pick_t rfl rfl) ?_
  refine rj_nil ?_
  refine hK3 _ _ _ ?_
  refine cj_env (eL 0 rfl (eL 1 rfl (eL 17 rfl eN))) ?_
  refine cj_cond rfl (fun hc17 => ?_) (fun hc17 => ?_)
  ·have f1 : i = g.base := by simpa using hc17
   refine cj_seq (fun K5 hK5 => ?_)
   refine cj_region ?_
   refine rv0 rfl rfl rfl (y_move rfl) ?_
   refine rv0 rfl rfl rfl (y_nilCheck rfl) ?_
   refine rv0 rfl rfl rfl (y_fieldAddr (k := 5) Try.underlying58 rfl (n := 1) (by decide) Try.sizeOf25 rfl) ?_
   first | refine rv0 rfl rfl rfl (y_load ⟨Try.isAgg25, Try.sizeOf25⟩ rfl (by (repeat (first|exact zH _|apply zT));done) rfl) ?_ | refine rv0 rfl rfl rfl (y_load_slc ⟨Try.isAgg25, Try.sizeOf25⟩ rfl (by (repeat (first|exact zH _|apply zT));done) rfl) ?_
   refine rv0 rfl rfl rfl (y_assign rfl) ?_
   refine rv0 rfl rfl rfl (y_assign rfl) ?_
   refine rj_nil ?_
   refine hK5 _ _ _ ?_
   refine cj_env (eL 4 rfl (eL 5 rfl eN)) ?_
   refine cj_ret ?_
   refine hret _ _ _ ?_
   apply ej_ret Try.results30 (.cons (rv_tmp rfl) (.cons (rv_tmp rfl) .nil)) _ [lgB b d v g] (by (first | exact Hp.le_refl _ | assumption | exact Hp.le_trans ‹_› ‹_›)) rfl
   case hp => unfold LG.termAt; rw [if_pos f1]; exact ⟨rfl, rfl⟩
   case hS => (repeat (first|exact zR _|(apply zP;focus (repeat (first|exact zH _|apply zT)))|apply zD|exact zA _ _))
  ·have f1 : ¬ i = g.base := by simpa using hc17
   refine cj_skip ?_
   refine hK2 _ _ _ ?_
   refine cj_seq (fun K6 hK6 => ?_)
   refine cj_region ?_
   refine rv0 rfl rfl rfl (y_move rfl) ?_
   refine rv0 rfl rfl rfl (y_move rfl) ?_
   refine rv0 rfl rfl rfl (y_call Try.call14 rfl (ha) (by (repeat (first|exact zN _|(apply zS;focus (repeat (first|exact zH _|apply zT))))))) ?_
   obtain ⟨e, ok, hev, htm⟩ : ∃ (e : Ent) (ok : Bool), entV (g.at i) = tupOf [.agg ⟨entC e⟩, .bool ok] ∧ numV (g.termAt i) = tupOf [.int .u64 e.1, .bool ok] := by unfold LG.termAt; rw [if_neg f1]; cases g.at i with | none => exact ⟨(0, []), false, rfl, rfl⟩ | some e => exact ⟨e, true, rfl, rfl⟩
   refine rj_eq 25 rfl (v' := tupOf [.agg ⟨entC e⟩, .bool ok]) hev ?_
   refine rv0 rfl rfl rfl (y_move rfl) ?_
   refine rv0 rfl rfl rfl (y_extract rfl rfl) ?_
   refine rv0 rfl rfl rfl (y_extract rfl rfl) ?_
   refine rj_alloc (wn0 rfl) rfl Try.zeroValue37 rfl (fun b6 => ?_)
   refine rj_stores_all (vs := entC e) ⟨Try.isAgg37, Try.sizeOf37⟩ rfl (wn0 rfl) rfl rfl (entE.one (R := R) (x := e) rfl) (by (repeat (first|exact zH _|apply zT));done) rfl ?_
   refine rv0 rfl rfl rfl (y_assign rfl) ?_
   refine rj_nil ?_
   refine hK6 _ _ _ ?_
   refine cj_env (eL 6 rfl (eL 7 rfl eN)) ?_
   refine cj_seq (fun K7 hK7 => ?_)
   refine cj_region ?_
   refine rv0 rfl rfl rfl (y_fieldAddr (k := 0) Try.underlying37 rfl (n := 1) (by decide) Try.sizeOf25 rfl) ?_
   first | refine rv0 rfl rfl rfl (y_load ⟨Try.isAgg25, Try.sizeOf25⟩ rfl (by (repeat (first|exact zH _|apply zT));done) rfl) ?_ | refine rv0 rfl rfl rfl (y_load_slc ⟨Try.isAgg25, Try.sizeOf25⟩ rfl (by (repeat (first|exact zH _|apply zT));done) rfl) ?_
   refine rv0 rfl rfl rfl (y_move rfl) ?_
   refine rv0 rfl rfl rfl (y_assign rfl) ?_
   refine rv0 rfl rfl rfl (y_assign rfl) ?_
   refine rj_nil ?_
   refine hK7 _ _ _ ?_
   refine cj_env (eL 4 rfl (eL 5 rfl eN)) ?_
   refine cj_ret ?_
   refine hret _ _ _ ?_
   apply ej_ret Try.results30 (.cons (rv_tmp rfl) (.cons (rv_tmp rfl) .nil)) _ [lgB b d v g] (by (first | exact Hp.le_refl _ | assumption | exact Hp.le_trans ‹_› ‹_›)) rfl
   case hp => rw [htm]; exact ⟨rfl, rfl⟩
   case hS => (repeat (first|exact zR _|(apply zP;focus (repeat (first|exact zH _|apply zT)))|apply zD|exact zA _ _))
/-! ### kinds of nodes -/
def intsV (l : List Int) : List Value := l.map (Value.int .i64 ·)
def intE : Elt Int where
  P := fun _ n cs => cs = [.int .i64 n]
  sz := 1
  mono := fun _ h => h
  len := fun h => by subst h; rfl
  one := fun h u hu => by subst h; simp at hu; subst hu; rfl
theorem intsV_flat (l : List Int) : intsV l = (l.map fun n => [Value.int .i64 n]).flatten := by
  induction l with
  | nil => rfl
  | cons a l ih => simp [intsV] at ih ⊢; exact ih
theorem intsFr {R : Hp} {l : List Int} {v : Value} (h : FrozenS R v l.length (intsV l)) : FrX intE R l v := by
  rw [intsV_flat] at h
  refine FrozenS.frx h ⟨by simp, fun i x cs h1 h2 => ?_⟩
  rw [List.getElem?_map, h1] at h2
  simpa [intE] using h2.symm
theorem shape1_q {R : Hp} {x : Nd} {cs : List Value} (hx : RepN R x cs) (k : Int) : QTri Try.prog 45 [.agg ⟨cs⟩, .int .i64 k] R [] (.bool (decide (x.kind = k))) := by
  obtain ⟨kk, n, s, l, q, cap, rfl, rfl, hs, hl⟩ := hx.inv
  refine Tri.q2 ?_
  refine tri_of Try.func45 rfl Try.ntmps45 rfl (fun σ F Q hret hend hpan => ?_)
  try simp only [List.cons_append, List.nil_append]
  refine cj_env (eL 0 rfl (eL 1 rfl eN)) ?_
  refine cj_seq (fun K1 hK1 => ?_)
  refine cj_region ?_
  refine rj_box (wn0 rfl) rfl rfl rfl (fun b2 => ?_)
  refine rv0 rfl rfl rfl (y_assign rfl) ?_
  refine rj_nil ?_
  refine hK1 _ _ _ ?_
  refine cj_seq (fun K2 hK2 => ?_)
  refine cj_region ?_
  refine rv0 rfl rfl rfl (y_fieldAddr (k := 0) Try.underlying62 rfl (n := 1) (by decide) Try.sizeOf3 rfl) ?_
  first | refine rv0 rfl rfl rfl (y_load ⟨Try.isAgg3, Try.sizeOf3⟩ rfl (by (repeat (first|exact zH _|apply zT));done) rfl) ?_ | refine rv0 rfl rfl rfl (y_load_slc ⟨Try.isAgg3, Try.sizeOf3⟩ rfl (by (repeat (first|exact zH _|apply zT));done) rfl) ?_
  refine rv0 rfl rfl rfl (y_move rfl) ?_
  refine rv0 rfl rfl rfl (y_eql rfl rfl) ?_
  refine rv0 rfl rfl rfl (y_assign rfl) ?_
  refine rj_nil ?_
  refine hK2 _ _ _ ?_
  refine cj_env (eL 4 rfl eN) ?_
  refine cj_ret ?_
  refine hret _ _ _ ?_
  apply ej_ret Try.results45 (.cons (rv_tmp rfl) .nil) _ [] (by (first | exact Hp.le_refl _ | assumption | exact Hp.le_trans ‹_› ‹_›)) rfl
  case hp => exact ⟨rfl, rfl⟩
  case hS => (repeat (first|exact zR _|(apply zP;focus (repeat (first|exact zH _|apply zT)))|apply zD|exact zA _ _))
theorem take_map_succ {l : List Nd} {ks : List Int} {i : Nat} {x : Nd} {k : Int} (h : (l.take i).map Nd.kind = ks.take i) (hx : l[i]? = some x) (hk : ks[i]? = some k) (e : x.kind = k) : (l.take (i + 1)).map Nd.kind = ks.take (i + 1) := by
  rw [List.take_add_one, List.take_add_one, hx, hk]; simp [h, e]
theorem eqFunc_q {R : Hp} (l : List Nd) (q : Option Addr) (cap : Nat) (hl : RepL R l q cap) (ks : List Int) (v : Value) (hk : FrX intE R ks v) :
    QTri Try.prog 44 [.slice q l.length cap, v, .func (.func 45) ⟨[]⟩ ⟨[]⟩] R [] (.bool (decide (l.map Nd.kind = ks))) := by
  obtain ⟨qk, capk, rfl, hck, hcm⟩ := hk.shape
  have hlb : ks.length ≤ maxLen := Nat.le_trans hck hcm
  have hll : l.length ≤ big := by obtain ⟨_, h, _⟩ := hl; exact h
  unfold maxLen at hlb
  unfold big at hll
  refine Tri.q2 ?_
  refine tri_of Try.func44 rfl Try.ntmps44 rfl (fun σ F Q hret hend hpan => ?_)
  try simp only [List.cons_append, List.nil_append]
  refine cj_env (eL 0 rfl (eL 1 rfl (eL 2 rfl eN))) ?_
  refine cj_seq (fun K1 hK1 => ?_)
  refine cj_region ?_
  refine rv0 rfl rfl rfl (y_assign rfl) ?_
  refine rj_nil ?_
  refine hK1 _ _ _ ?_
  refine cj_seq (fun K2 hK2 => ?_)
  refine cj_seq (fun K3 hK3 => ?_)
  refine cj_region ?_
  refine rv0 rfl rfl rfl (y_move rfl) ?_
  first | refine rv0 rfl rfl rfl (y_len_sl Try.underlying60 rfl) ?_ | refine rv0 rfl rfl rfl (y_len_slc Try.underlying60 rfl (by (repeat (first|exact zH _|apply zT));done)) ?_
  refine rv0 rfl rfl rfl (y_move rfl) ?_
  first | refine rv0 rfl rfl rfl (y_len_sl Try.underlying89 rfl) ?_ | refine rv0 rfl rfl rfl (y_len_slc Try.underlying89 rfl (by (repeat (first|exact zH _|apply zT));done)) ?_
  refine rv0 rfl rfl rfl (y_neq rfl rfl) ?_
  refine rj_nil ?_
  refine hK3 _ _ _ ?_
  refine cj_env (eL 0 rfl (eL 1 rfl (eL 2 rfl (eL 14 rfl eN)))) ?_
  refine cj_cond rfl (fun hc14 => ?_) (fun hc14 => ?_)
  ·have hne : ¬ l.map Nd.kind = ks := fun h => by have := congrArg List.length h; simp at this; (try simp at hc14); omega
   refine cj_seq (fun K5 hK5 => ?_)
   refine cj_region ?_
   refine rv0 rfl rfl rfl (y_assign rfl) ?_
   refine rj_nil ?_
   refine hK5 _ _ _ ?_
   refine cj_env (eL 6 rfl eN) ?_
   refine cj_ret ?_
   refine hret _ _ _ ?_
   apply ej_ret Try.results44 (.cons (rv_tmp rfl) .nil) _ [] (by (first | exact Hp.le_refl _ | assumption | exact Hp.le_trans ‹_› ‹_›)) rfl
   case hp => rw [decide_eq_false hne]; exact ⟨rfl, rfl⟩
   case hS => (repeat (first|exact zR _|(apply zP;focus (repeat (first|exact zH _|apply zT)))|apply zD|exact zA _ _))
  ·have hll2 : l.length = ks.length := by (try simp at hc14); omega
   refine cj_skip ?_
   refine hK2 _ _ _ ?_
   refine cj_seq (fun K6 hK6 => ?_)
   refine cj_seq (fun K7 hK7 => ?_)
   refine cj_region ?_
   refine rv0 rfl rfl rfl (y_move rfl) ?_
   first | refine rv0 rfl rfl rfl (y_len_sl Try.underlying60 rfl) ?_ | refine rv0 rfl rfl rfl (y_len_slc Try.underlying60 rfl (by (repeat (first|exact zH _|apply zT));done)) ?_
   refine rv0 rfl rfl rfl (y_move rfl) ?_
   refine rj_nil ?_
   refine hK7 _ _ _ ?_
   refine cj_block ?_
   refine cj_env (E' := (fun (x : Nat) => [(1, .slice qk ks.length capk), (2, .func (.func 45) ⟨[]⟩ ⟨[]⟩), (15, .slice q l.length cap), (16, .int .i64 (l.length : Int)), (17, .int .i64 (x : Int))]) 0) (eC rfl (eC rfl (eC rfl (eC rfl (eC rfl eN))))) ?_
   refine cj_sub (M := (fun (x : Nat) => F) 0) (by (repeat (first|exact zR _|(apply zP;focus (repeat (first|exact zH _|apply zT)))|apply zD|exact zA _ _))) ?_
   refine cj_loop (fun (x : Nat) => [(1, .slice qk ks.length capk), (2, .func (.func 45) ⟨[]⟩ ⟨[]⟩), (15, .slice q l.length cap), (16, .int .i64 (l.length : Int)), (17, .int .i64 (x : Int))]) (fun (x : Nat) => R) (fun (x : Nat) => F) (fun (x : Nat) => x ≤ l.length ∧ (l.take x).map Nd.kind = ks.take x) (fun (x : Nat) => l.length - x) 0 (⟨by simp, by simp⟩) ?_
   rintro i ⟨hi, hal⟩
   try dsimp only
   refine cj_seq (fun K8 hK8 => ?_)
   refine cj_region ?_
   refine rv0 rfl rfl rfl (y_lss rfl rfl) ?_
   refine rj_nil ?_
   refine hK8 _ _ _ ?_
   refine cj_seq (fun K9 hK9 => ?_)
   refine cj_cond rfl (fun hc18 => ?_) (fun hc18 => ?_)
   ·try simp only [dT, dF, nT, nF, tF, fT] at hc18
    refine cj_skip ?_
    refine hK9 _ _ _ ?_
    refine cj_seq (fun K11 hK11 => ?_)
    refine cj_block ?_
    refine cj_seq (fun K12 hK12 => ?_)
    refine cj_region ?_
    have hi2 : i < l.length := by (try simp at hc18); omega
    obtain ⟨x, hx⟩ : ∃ x, l[i]? = some x := ⟨_, List.getElem?_eq_getElem hi2⟩
    obtain ⟨k, hkx⟩ : ∃ x, ks[i]? = some x := ⟨_, List.getElem?_eq_getElem (by omega)⟩
    obtain ⟨bx, ox, cx, rfl, hcl, hrep, hcell⟩ := hl.at hx
    obtain ⟨bk, ok, ck, ck0, hek, rfl, _, hcellk⟩ := hk.at hkx
    obtain ⟨rfl, rfl⟩ : qk = some ⟨bk, ok, none⟩ ∧ capk = ck := by cases hek; exact ⟨rfl, rfl⟩
    refine rv0 rfl rfl rfl (y_move rfl) ?_
    first | refine rv0 rfl rfl rfl (y_indexAddr Try.underlying60 Try.sizeOf62 rfl rfl (by (first | omega | (dsimp only; omega) | (simp; done) | (simp; omega)))) ?_ | refine rv0 rfl rfl rfl (y_index_slc Try.underlying60 Try.sizeOf62 rfl rfl (by (repeat (first|exact zH _|apply zT));done) (by (first | omega | (dsimp only; omega) | (simp; done) | (simp; omega)))) ?_
    refine rv0 rfl rfl rfl ((y_loads_ro ⟨Try.isAgg62, Try.sizeOf62⟩ (vs := cx) hcl rfl (fun j u hj => hcell j u hj))) ?_
    refine rj_alloc (wn0 rfl) rfl Try.zeroValue62 rfl (fun b8 => ?_)
    refine rv0 rfl rfl rfl (y_assign rfl) ?_
    refine rj_stores_all (vs := cx) ⟨Try.isAgg62, Try.sizeOf62⟩ hcl (wn0 rfl) rfl rfl (rep_one hrep) (by (repeat (first|exact zH _|apply zT));done) rfl ?_
    refine rj_nil ?_
    refine hK12 _ _ _ ?_
    refine cj_env (eL 1 rfl (eL 2 rfl (eL 7 rfl (eL 8 rfl (eL 15 rfl (eL 16 rfl (eL 17 rfl eN))))))) ?_
    refine cj_seq (fun K13 hK13 => ?_)
    refine cj_region ?_
    refine rv0 rfl rfl rfl (y_move rfl) ?_
    refine rv0 rfl rfl rfl (y_move rfl) ?_
    first | refine rv0 rfl rfl rfl (y_indexAddr Try.underlying89 Try.sizeOf3 rfl rfl (by (first | omega | (dsimp only; omega) | (simp; done) | (simp; omega)))) ?_ | refine rv0 rfl rfl rfl (y_index_slc Try.underlying89 Try.sizeOf3 rfl rfl (by (repeat (first|exact zH _|apply zT));done) (by (first | omega | (dsimp only; omega) | (simp; done) | (simp; omega)))) ?_
    refine rv0 rfl rfl rfl ((y_load_ro ⟨Try.isAgg3, Try.sizeOf3⟩ rfl (hcellk 0 (.int .i64 k) rfl))) ?_
    refine rv0 rfl rfl rfl (y_assign rfl) ?_
    refine rj_nil ?_
    refine hK13 _ _ _ ?_
    refine cj_env (eL 1 rfl (eL 2 rfl (eL 8 rfl (eL 9 rfl (eL 15 rfl (eL 16 rfl (eL 17 rfl eN))))))) ?_
    refine cj_seq (fun K14 hK14 => ?_)
    refine cj_region ?_
    refine rv0 rfl rfl rfl (y_move rfl) ?_
    refine rv0 rfl rfl rfl ((y_loads_all (vs := cx) ⟨Try.isAgg62, Try.sizeOf62⟩ hcl rfl (by (repeat (first|exact zH _|apply zT));done))) ?_
    refine rv0 rfl rfl rfl (y_move rfl) ?_
    refine rv0 rfl rfl rfl (y_callv rfl Try.call45 rfl (shape1_q hrep k) (by (repeat (first|exact zN _|(apply zS;focus (repeat (first|exact zH _|apply zT))))))) ?_
    refine rv0 rfl rfl rfl (y_not rfl) ?_
    refine rj_nil ?_
    refine hK14 _ _ _ ?_
    refine cj_env (eL 1 rfl (eL 2 rfl (eL 15 rfl (eL 16 rfl (eL 17 rfl (eL 30 rfl eN)))))) ?_
    refine cj_cond rfl (fun hc30 => ?_) (fun hc30 => ?_)
    ·have hne : ¬ l.map Nd.kind = ks := fun h => by have h1 := congrArg (fun z => z[i]?) h; simp only [List.getElem?_map, hx, hkx] at h1; simp at h1; simp [h1] at hc30
     refine cj_seq (fun K16 hK16 => ?_)
     refine cj_region ?_
     refine rv0 rfl rfl rfl (y_assign rfl) ?_
     refine rj_nil ?_
     refine hK16 _ _ _ ?_
     refine cj_env (eL 6 rfl eN) ?_
     refine cj_ret ?_
     refine hret _ _ _ ?_
     apply ej_ret Try.results44 (.cons (rv_tmp rfl) .nil) _ [] (by (first | exact Hp.le_refl _ | assumption | exact Hp.le_trans ‹_› ‹_›)) rfl
     case hp => rw [decide_eq_false hne]; exact ⟨rfl, rfl⟩
     case hS => (repeat (first|exact zR _|(apply zP;focus (repeat (first|exact zH _|apply zT)))|apply zD|exact zA _ _))
    ·try simp only [dT, dF, nT, nF, tF, fT] at hc30
     refine cj_skip ?_
     refine hK11 _ _ _ ?_
     refine cj_region ?_
     first | refine rv0 rfl rfl rfl (y_add64 rfl rfl (by (first | omega | (dsimp only; omega) | (simp; done) | (simp; omega)))) ?_ | refine rv0 rfl rfl rfl (y_add rfl rfl) ?_
     refine rv0 rfl rfl rfl (y_move rfl) ?_
     refine rj_nil ?_
     refine ej_on (q' := roundK _ _ _ _ _ _ _) rfl ?_
     refine ej_round (i + 1) (⟨by omega, take_map_succ hal hx hkx (by simpa using hc30)⟩) (by omega) (eC rfl (eC rfl (eC rfl (eC rfl (eC rfl eN))))) rfl (by (repeat (first|exact zR _|(apply zP;focus (repeat (first|exact zH _|apply zT)))|apply zD|exact zA _ _)))
   ·try simp only [dT, dF, nT, nF, tF, fT] at hc18
    refine cj_exit ?_
    refine hK6 _ _ _ ?_
    refine cj_env eN ?_
    refine cj_seq (fun K17 hK17 => ?_)
    refine cj_region ?_
    obtain rfl : i = l.length := by (try simp at hc18); omega
    rw [List.take_length, List.take_of_length_le (by omega)] at hal
    refine rv0 rfl rfl rfl (y_assign rfl) ?_
    refine rj_nil ?_
    refine hK17 _ _ _ ?_
    refine cj_ret ?_
    refine hret _ _ _ ?_
    apply ej_ret Try.results44 (.cons (rv_tmp rfl) .nil) _ [] (by (first | exact Hp.le_refl _ | assumption | exact Hp.le_trans ‹_› ‹_›)) rfl
    case hp => rw [decide_eq_true hal]; exact ⟨rfl, rfl⟩
    case hS => (repeat (first|exact zR _|(apply zP;focus (repeat (first|exact zH _|apply zT)))|apply zD|exact zA _ _))
theorem shape_q {R : Hp} (l : List Nd) (q : Option Addr) (cap : Nat) (hl : RepL R l q cap) (ks : List Int) (v : Value) (hk : FrX intE R ks v) :
    QTri Try.prog 33 [.slice q l.length cap, v] R [] (.bool (decide (l.map Nd.kind = ks))) := by
  have hvo := hk.one
  refine Tri.q2 ?_
  refine tri_of Try.func33 rfl Try.ntmps33 rfl (fun σ F Q hret hend hpan => ?_)
  try simp only [List.cons_append, List.nil_append]
  refine cj_env (eL 0 rfl (eL 1 rfl eN)) ?_
  refine cj_seq (fun K1 hK1 => ?_)
  refine cj_region ?_
  refine rv0 rfl rfl rfl (y_assign rfl) ?_
  refine rj_nil ?_
  refine hK1 _ _ _ ?_
  refine cj_seq (fun K2 hK2 => ?_)
  refine cj_region ?_
  refine rv0 rfl rfl rfl (y_move rfl) ?_
  refine rv0 rfl rfl rfl (y_move rfl) ?_
  refine rv0 rfl rfl rfl (y_call Try.call44 rfl (eqFunc_q l q cap hl ks v hk) (by (repeat (first|exact zN _|(apply zS;focus (repeat (first|exact zH _|apply zT))))))) ?_
  refine rv0 rfl rfl rfl (y_assign rfl) ?_
  refine rj_nil ?_
  refine hK2 _ _ _ ?_
  refine cj_env (eL 4 rfl eN) ?_
  refine cj_ret ?_
  refine hret _ _ _ ?_
  apply ej_ret Try.results33 (.cons (rv_tmp rfl) .nil) _ [] (by (first | exact Hp.le_refl _ | assumption | exact Hp.le_trans ‹_› ‹_›)) rfl
  case hp => exact ⟨rfl, rfl⟩
  case hS => (repeat (first|exact zR _|(apply zP;focus (repeat (first|exact zH _|apply zT)))|apply zD|exact zA _ _))
end V
end Go.Proofs.Ytcgjlhhfldkdaaa
