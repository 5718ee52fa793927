/- The document's log; a log of the program that holds it. -/
import Derived.Test.YtcgjlhhfldkdaaaT8e
set_option linter.unusedSimpArgs false
set_option linter.unusedVariables false
set_option maxRecDepth 100000
namespace Go.Proofs.Ytcgjlhhfldkdaaa
open Go.RowKit
namespace V
set_option maxHeartbeats 4000000
def rlC (v : Value) (g : LG) : List Value := [.int .u64 g.term, .int .i64 g.vote, .int .u64 g.base, .int .u64 g.baseT, .string (str g.state), v]
theorem rlNew_q {R : Hp} : QTri Try.prog 9 [] R [] (.agg ⟨rlC (.slice none 0 0) LG.new⟩) := by
  refine Tri.q2 ?_
  refine tri_of Try.func9 rfl Try.ntmps9 rfl (fun σ F Q hret hend hpan => ?_)
  try simp only [List.cons_append, List.nil_append]
  refine cj_env eN ?_
  refine cj_seq (fun K1 hK1 => ?_)
  refine cj_region ?_
  refine rj_alloc (wn0 rfl) rfl Try.zeroValue39 rfl (fun b0 => ?_)
  refine rj_nil ?_
  refine hK1 _ _ _ ?_
  refine cj_seq (fun K2 hK2 => ?_)
  refine cj_region ?_
  refine rv0 rfl rfl rfl (y_build (cells := [_, _, _, _, _, _]) [(0, 1), (1, 1), (2, 1), (3, 1), (4, 1), (5, 1)] Try.underlying39 Try.zeroValue39 (fun _ => rfl) rfl rfl) ?_
  refine rj_stores ⟨Try.isAgg39, Try.sizeOf39⟩ rfl (wn0 rfl) rfl rfl (by (first | (simp [Value.oneCell']; done) | (intro u hu; simp only [List.mem_cons, List.not_mem_nil, or_false] at hu; rcases hu with rfl | rfl | rfl | rfl <;> first | rfl | assumption))) (by (repeat (first|exact zH _|apply zT));done) (by (simp)) rfl ?_
  refine rj_nil ?_
  refine hK2 _ _ _ ?_
  refine cj_ret ?_
  refine hret _ _ _ ?_
  apply ej_ret Try.results9 (.cons (rv_cells ⟨Try.isAgg39, Try.sizeOf39⟩ rfl (by (repeat (first|exact zH _|apply zT));done) rfl rfl) .nil) _ [] (by (first | exact Hp.le_refl _ | assumption | exact Hp.le_trans ‹_› ‹_›)) rfl
  case hp => exact ⟨rfl, rfl⟩
  case hS => (repeat (first|exact zR _|(apply zP;focus (repeat (first|exact zH _|apply zT)))|apply zD|exact zA _ _))
theorem rlLast_q {R : Hp} (v : Value) (g : LG) (hg : g.ok) (hv : FrX entE R g.all v) : QTri Try.prog 27 [.agg ⟨rlC v g⟩] R [] (.int .u64 g.last) := by
  obtain ⟨q, cap, rfl, _, _⟩ := hv.shape
  have hb := hg.base
  have hn := hg.alln
  have hle : g.last = g.base + g.all.length := rfl
  refine Tri.q2 ?_
  unfold rlC
  refine tri_of Try.func27 rfl Try.ntmps27 rfl (fun σ F Q hret hend hpan => ?_)
  try simp only [List.cons_append, List.nil_append]
  refine cj_env (eL 0 rfl eN) ?_
  refine cj_seq (fun K1 hK1 => ?_)
  refine cj_region ?_
  refine rj_box (wn0 rfl) rfl rfl rfl (fun b1 => ?_)
  refine rv0 rfl rfl rfl (y_assign rfl) ?_
  refine rj_nil ?_
  refine hK1 _ _ _ ?_
  refine cj_seq (fun K2 hK2 => ?_)
  refine cj_region ?_
  refine rv0 rfl rfl rfl (y_fieldAddr (k := 2) Try.underlying39 rfl (n := 1) (by decide) Try.sizeOf25 rfl) ?_
  first | refine rv0 rfl rfl rfl (y_load ⟨Try.isAgg25, Try.sizeOf25⟩ rfl (by (repeat (first|exact zH _|apply zT));done) rfl) ?_ | refine rv0 rfl rfl rfl (y_load_slc ⟨Try.isAgg25, Try.sizeOf25⟩ rfl (by (repeat (first|exact zH _|apply zT));done) rfl) ?_
  refine rv0 rfl rfl rfl (y_fieldAddr (k := 5) Try.underlying39 rfl (n := 1) (by decide) Try.sizeOf22 rfl) ?_
  first | refine rv0 rfl rfl rfl (y_load ⟨Try.isAgg22, Try.sizeOf22⟩ rfl (by (repeat (first|exact zH _|apply zT));done) rfl) ?_ | refine rv0 rfl rfl rfl (y_load_slc ⟨Try.isAgg22, Try.sizeOf22⟩ rfl (by (repeat (first|exact zH _|apply zT));done) rfl) ?_
  first | refine rv0 rfl rfl rfl (y_len_sl Try.underlying22 rfl) ?_ | refine rv0 rfl rfl rfl (y_len_slc Try.underlying22 rfl (by (repeat (first|exact zH _|apply zT));done)) ?_
  first | refine rv0 rfl rfl rfl (y_conv_in Try.underlying3 Try.underlying25 rfl (by (simp only [IntKind.min, IntKind.max, IntKind.signed, IntKind.bits, Bool.false_eq_true, ite_false, ite_true]; omega))) ?_ | refine rv0 rfl rfl rfl (y_conv Try.underlying3 Try.underlying25 rfl) ?_
  first | refine rv0 rfl rfl rfl (y_addu rfl rfl (by (first | omega | (dsimp only; omega) | (simp; done) | (simp; omega)))) ?_ | refine rv0 rfl rfl rfl (y_add rfl rfl) ?_
  refine rv0 rfl rfl rfl (y_assign rfl) ?_
  refine rj_nil ?_
  refine hK2 _ _ _ ?_
  refine cj_env (eL 2 rfl eN) ?_
  refine cj_ret ?_
  refine hret _ _ _ ?_
  apply ej_ret Try.results27 (.cons (rv_tmp rfl) .nil) _ [] (by (first | exact Hp.le_refl _ | assumption | exact Hp.le_trans ‹_› ‹_›)) rfl
  case hp => exact ⟨rfl, rfl⟩
  case hS => (repeat (first|exact zR _|(apply zP;focus (repeat (first|exact zH _|apply zT)))|apply zD|exact zA _ _))
theorem rlC_one {v : Value} (g : LG) (hv : v.oneCell' = true) : ∀ u ∈ rlC v g, u.oneCell' = true := by
  intro u hu
  simp only [rlC, List.mem_cons, List.not_mem_nil, or_false] at hu
  rcases hu with rfl | rfl | rfl | rfl | rfl | rfl <;> first | rfl | assumption
def LG.addR (g : LG) (i : Int) (m : List Ent) : LG × Int := if i < g.base ∨ i > g.last then (g, 1) else (g.play (.add i m), 0)
theorem rlAdd_t {R : Hp} (va vm : Value) (g : LG) (i : Int) (m : List Ent) (hg : g.ok) (hi : u64B i) (hva : FrX entE R g.all va) (hvm : FrX entE R m vm) (hm : m.length ≤ 1000000) :
    Tri Try.prog 10 [.agg ⟨rlC va g⟩, .int .u64 i, vm] R []
      (fun x R' L' => (∃ va', x = tupOf [.agg ⟨rlC va' (g.addR i m).1⟩, .int .i64 (g.addR i m).2] ∧ FrX entE R' (g.addR i m).1.all va') ∧ L' = []) := by
  have hlq := rlLast_q (R := R) va g hg hva
  have hva0 := hva
  obtain ⟨q, cap, rfl, hq1, hq2⟩ := hva.shape
  have hvs := hvm.ents
  obtain ⟨qm, capm, rfl, _, _⟩ := hvm.shape
  have hb := hg.base
  have hn := hg.alln
  have hle : g.last = g.base + g.all.length := rfl
  unfold rlC at hlq ⊢
  refine tri_of Try.func10 rfl Try.ntmps10 rfl (fun σ F Q hret hend hpan => ?_)
  try simp only [List.cons_append, List.nil_append]
  refine cj_env (eL 0 rfl (eL 1 rfl (eL 2 rfl eN))) ?_
  refine cj_seq (fun K1 hK1 => ?_)
  refine cj_region ?_
  refine rj_box (wn0 rfl) rfl rfl rfl (fun b3 => ?_)
  refine rj_alloc (wn0 rfl) rfl Try.zeroValue39 rfl (fun b6 => ?_)
  refine rv0 rfl rfl rfl (y_assign rfl) ?_
  refine rj_nil ?_
  refine hK1 _ _ _ ?_
  refine cj_seq (fun K2 hK2 => ?_)
  refine cj_seq (fun K3 hK3 => ?_)
  refine cj_region ?_
  refine rv0 rfl rfl rfl (y_move rfl) ?_
  refine rv0 rfl rfl rfl (y_fieldAddr (k := 2) Try.underlying39 rfl (n := 1) (by decide) Try.sizeOf25 rfl) ?_
  first | refine rv0 rfl rfl rfl (y_load ⟨Try.isAgg25, Try.sizeOf25⟩ rfl (by (repeat (first|exact zH _|apply zT));done) rfl) ?_ | refine rv0 rfl rfl rfl (y_load_slc ⟨Try.isAgg25, Try.sizeOf25⟩ rfl (by (repeat (first|exact zH _|apply zT));done) rfl) ?_
  refine rv0 rfl rfl rfl (y_lss rfl rfl) ?_
  refine rv0 rfl rfl rfl (y_move rfl) ?_
  refine rj_part 12 rfl (fun hg12 => ?_) (fun hg12 => ?_)
  ·have f1 : i < g.base ∨ i > g.last := .inl (by simpa using hg12)
   refine rj_skip (wn2 rfl rfl rfl rfl rfl) rfl rfl ?_
   refine rj_skip (wn2 rfl rfl rfl rfl rfl) rfl rfl ?_
   refine rj_skip (wn2 rfl rfl rfl rfl rfl) rfl rfl ?_
   refine rj_skip (wn2 rfl rfl rfl rfl rfl) rfl rfl ?_
   refine rv0 rfl rfl rfl (y_pick_t rfl rfl) ?_
   refine rj_nil ?_
   refine hK3 _ _ _ ?_
   refine cj_env (eL 1 rfl (eL 2 rfl (eL 3 rfl (eL 6 rfl (eL 17 rfl eN))))) ?_
   refine cj_cond_t rfl ?_
   refine cj_seq (fun K4 hK4 => ?_)
   refine cj_region ?_
   first | refine rv0 rfl rfl rfl (y_loads_blk ⟨Try.isAgg39, Try.sizeOf39⟩ rfl (by (repeat (first|exact zH _|apply zT));done) rfl rfl) ?_ | refine rv0 rfl rfl rfl (y_loads_slc ⟨Try.isAgg39, Try.sizeOf39⟩ rfl (by (repeat (first|exact zH _|apply zT));done) rfl rfl (by (first | omega | (dsimp only; omega) | (simp; done) | (simp; omega)))) ?_
   refine rj_stores ⟨Try.isAgg39, Try.sizeOf39⟩ rfl (wn0 rfl) rfl rfl (by (first | (simp [Value.oneCell']; done) | (intro u hu; simp only [List.mem_cons, List.not_mem_nil, or_false] at hu; rcases hu with rfl | rfl | rfl | rfl <;> first | rfl | assumption))) (by (repeat (first|exact zH _|apply zT));done) (by (simp)) rfl ?_
   refine rv0 rfl rfl rfl (y_assign rfl) ?_
   refine rj_nil ?_
   refine hK4 _ _ _ ?_
   refine cj_env (eL 6 rfl (eL 7 rfl eN)) ?_
   refine cj_ret ?_
   refine hret _ _ _ ?_
   apply ej_ret Try.results10 (.cons (rv_cells ⟨Try.isAgg39, Try.sizeOf39⟩ rfl (by (repeat (first|exact zH _|apply zT));done) rfl rfl) (.cons (rv_tmp rfl) .nil)) _ [] (by first | exact Hp.le_refl _ | exact hR9) rfl
   case hp => unfold LG.addR; rw [if_pos f1]; exact ⟨⟨_, rfl, hva0⟩, rfl⟩
   case hS => (repeat (first|exact zR _|(apply zP;focus (repeat (first|exact zH _|apply zT)))|apply zD|exact zA _ _))
  ·have f10 : ¬ i < g.base := by simpa using hg12
   refine rj_val (wn1 rfl rfl rfl rfl) rfl rfl (y_move rfl) ?_
   first | refine rj_val (wn1 rfl rfl rfl rfl) rfl rfl (y_loads_blk ⟨Try.isAgg39, Try.sizeOf39⟩ rfl (by (repeat (first|exact zH _|apply zT));done) rfl rfl) ?_ | refine rj_val (wn1 rfl rfl rfl rfl) rfl rfl (y_loads_slc ⟨Try.isAgg39, Try.sizeOf39⟩ rfl (by (repeat (first|exact zH _|apply zT));done) rfl rfl (by (first | omega | (dsimp only; omega) | (simp; done) | (simp; omega)))) ?_
   refine rj_val (wn1 rfl rfl rfl rfl) rfl rfl (y_call Try.call27 rfl (hlq) (by (repeat (first|exact zN _|(apply zS;focus (repeat (first|exact zH _|apply zT))))))) ?_
   refine rj_val (wn1 rfl rfl rfl rfl) rfl rfl (y_gtr rfl rfl) ?_
   refine rv0 rfl rfl rfl (y_pick_f rfl rfl) ?_
   refine rj_nil ?_
   refine hK3 _ _ _ ?_
   refine cj_env (eL 1 rfl (eL 2 rfl (eL 3 rfl (eL 6 rfl (eL 17 rfl eN))))) ?_
   refine cj_cond rfl (fun hc17 => ?_) (fun hc17 => ?_)
   ·first | have f1 : i < g.base ∨ i > g.last := .inr (by simpa using hc17) | skip
    refine cj_seq (fun K6 hK6 => ?_)
    refine cj_region ?_
    first | refine rv0 rfl rfl rfl (y_loads_blk ⟨Try.isAgg39, Try.sizeOf39⟩ rfl (by (repeat (first|exact zH _|apply zT));done) rfl rfl) ?_ | refine rv0 rfl rfl rfl (y_loads_slc ⟨Try.isAgg39, Try.sizeOf39⟩ rfl (by (repeat (first|exact zH _|apply zT));done) rfl rfl (by (first | omega | (dsimp only; omega) | (simp; done) | (simp; omega)))) ?_
    refine rj_stores ⟨Try.isAgg39, Try.sizeOf39⟩ rfl (wn0 rfl) rfl rfl (by (first | (simp [Value.oneCell']; done) | (intro u hu; simp only [List.mem_cons, List.not_mem_nil, or_false] at hu; rcases hu with rfl | rfl | rfl | rfl <;> first | rfl | assumption))) (by (repeat (first|exact zH _|apply zT));done) (by (simp)) rfl ?_
    refine rv0 rfl rfl rfl (y_assign rfl) ?_
    refine rj_nil ?_
    refine hK6 _ _ _ ?_
    refine cj_env (eL 6 rfl (eL 7 rfl eN)) ?_
    refine cj_ret ?_
    refine hret _ _ _ ?_
    apply ej_ret Try.results10 (.cons (rv_cells ⟨Try.isAgg39, Try.sizeOf39⟩ rfl (by (repeat (first|exact zH _|apply zT));done) rfl rfl) (.cons (rv_tmp rfl) .nil)) _ [] (by first | exact Hp.le_refl _ | exact hR9) rfl
    case hp => unfold LG.addR; rw [if_pos f1]; exact ⟨⟨_, rfl, hva0⟩, rfl⟩
    case hS => (repeat (first|exact zR _|(apply zP;focus (repeat (first|exact zH _|apply zT)))|apply zD|exact zA _ _))
   ·have f1 : ¬ (i < g.base ∨ i > g.last) := by (try simp at hc17); omega
    refine cj_skip ?_
    refine hK2 _ _ _ ?_
    refine cj_seq (fun K7 hK7 => ?_)
    refine cj_region ?_
    obtain ⟨k, hk⟩ : ∃ k : Nat, i - g.base = k := ⟨(i - g.base).toNat, by omega⟩
    have hsub := hva0.sub (a := 0) (b := k) (by omega) (by omega)
    rw [List.drop_zero, Nat.sub_zero] at hsub
    have hss := hsub.ents
    have hkl : (g.all.take k).length = k := by simp; omega
    rw [hkl] at hss
    have hE : g.addR i m = ({ g with all := g.all.take k ++ m }, 0) := by unfold LG.addR; rw [if_neg f1]; simp [LG.play, hk]
    refine rj_buildSlice (sz := 2) (wn0 rfl) rfl Try.underlying22 Try.sizeOf37 Try.zeroValue37 rfl rfl rfl (by decide) (by decide) (fun b19 => ?_)
    refine rj_turn (A := slc 37 2 (.slice (some ⟨b19, 0, none⟩) 0 0) 0 _) (B := slc 37 2 (.slice (some ⟨b19, 0, none⟩) 0 0) 0 (entsC [])) (by (repeat (first|exact zH _|apply zT));done) (fun h hh => hh) ?_
    refine rv0 rfl rfl rfl (y_fieldAddr (k := 5) Try.underlying39 rfl (n := 1) (by decide) Try.sizeOf22 rfl) ?_
    first | refine rv0 rfl rfl rfl (y_load ⟨Try.isAgg22, Try.sizeOf22⟩ rfl (by (repeat (first|exact zH _|apply zT));done) rfl) ?_ | refine rv0 rfl rfl rfl (y_load_slc ⟨Try.isAgg22, Try.sizeOf22⟩ rfl (by (repeat (first|exact zH _|apply zT));done) rfl) ?_
    refine rv0 rfl rfl rfl (y_move rfl) ?_
    refine rv0 rfl rfl rfl (y_fieldAddr (k := 2) Try.underlying39 rfl (n := 1) (by decide) Try.sizeOf25 rfl) ?_
    first | refine rv0 rfl rfl rfl (y_load ⟨Try.isAgg25, Try.sizeOf25⟩ rfl (by (repeat (first|exact zH _|apply zT));done) rfl) ?_ | refine rv0 rfl rfl rfl (y_load_slc ⟨Try.isAgg25, Try.sizeOf25⟩ rfl (by (repeat (first|exact zH _|apply zT));done) rfl) ?_
    refine rv0 rfl rfl rfl ((Yld.to (u := .int .u64 (k : Int)) (y_subu rfl rfl (by omega)) (by rw [hk]))) ?_
    refine rv0 rfl rfl rfl ((y_slice_sl (l := 0) (h := k) Try.underlying22 Try.sizeOf37 rfl rfl ⟨.u64, rfl⟩ (by omega))) ?_
    refine rj_append (sz := 2) (by_ := 24) ⟨Try.underlying22, _, _, rfl, rfl, rfl, rfl, rfl⟩ (wn0 rfl) rfl rfl rfl (by (repeat (first|exact zH _|apply zT));done) ((FrX.src (T := entE) Try.underlying22 (l := g.all.take k) (by exact entsEls _) (by rw [hkl]; exact hss))) rfl (by (first | omega | (dsimp only; omega) | (simp; done) | (simp; omega))) (by simp only [maxLen]; omega) (fun v27 ho27 hh27 => ?_)
    rw [show entsC [] ++ ((g.all.take k).map entC).flatten = entsC (g.all.take k) from rfl, show 0 + (g.all.take k).length = (g.all.take k).length from Nat.zero_add _]
    refine rv0 rfl rfl rfl (y_move rfl) ?_
    refine rj_append (sz := 2) (by_ := 24) ⟨Try.underlying22, _, _, rfl, rfl, rfl, rfl, rfl⟩ (wn0 rfl) rfl rfl rfl (by (repeat (first|exact zH _|apply zT));done) ((FrX.src (T := entE) Try.underlying22 (entsEls m) hvs)) rfl (by (first | omega | (dsimp only; omega) | (simp; done) | (simp; omega))) (by simp only [maxLen]; omega) (fun v29 ho29 hh29 => ?_)
    rw [show entsC (g.all.take k) ++ (m.map entC).flatten = entsC (g.all.take k ++ m) from entsC_app _ _, ← List.length_append]
    refine rv0 rfl rfl rfl (y_fieldAddr (k := 5) Try.underlying39 rfl (n := 1) (by decide) Try.sizeOf22 rfl) ?_
    refine rj_store ⟨Try.isAgg22, Try.sizeOf22⟩ (wn0 rfl) rfl rfl (by (first | rfl | assumption | (apply cutV_one; assumption))) (by (repeat (first|exact zH _|apply zT));done) rfl rfl ?_
    refine rj_freeze (e := 37) (sz := 2) (n := (g.all.take k ++ m).length) (v := v29) (xs := entsC (g.all.take k ++ m)) (by (repeat (first|exact zH _|apply zT));done) (fun R9 hR9 hfr hxl => ?_)
    have hfx := entsFr hfr
    refine rj_nil ?_
    refine hK7 _ _ _ ?_
    refine cj_env (eL 3 rfl (eL 6 rfl eN)) ?_
    refine cj_seq (fun K8 hK8 => ?_)
    refine cj_region ?_
    first | refine rv0 rfl rfl rfl (y_loads_blk ⟨Try.isAgg39, Try.sizeOf39⟩ rfl (by (repeat (first|exact zH _|apply zT));done) rfl rfl) ?_ | refine rv0 rfl rfl rfl (y_loads_slc ⟨Try.isAgg39, Try.sizeOf39⟩ rfl (by (repeat (first|exact zH _|apply zT));done) rfl rfl (by (first | omega | (dsimp only; omega) | (simp; done) | (simp; omega)))) ?_
    refine rj_stores_all (vs := rlC v29 g) ⟨Try.isAgg39, Try.sizeOf39⟩ rfl (wn0 rfl) rfl rfl (rlC_one g hfx.one) (by (repeat (first|exact zH _|apply zT));done) rfl ?_
    refine rv0 rfl rfl rfl (y_assign rfl) ?_
    refine rj_nil ?_
    refine hK8 _ _ _ ?_
    refine cj_ret ?_
    refine hret _ _ _ ?_
    apply ej_ret Try.results10 (.cons (rv_cells ⟨Try.isAgg39, Try.sizeOf39⟩ rfl (by (repeat (first|exact zH _|apply zT));done) rfl rfl) (.cons (rv_tmp rfl) .nil)) _ [] (by first | exact Hp.le_refl _ | exact hR9) rfl
    case hp => rw [hE]; exact ⟨⟨_, rfl, hfx⟩, rfl⟩
    case hS => (repeat (first|exact zR _|(apply zP;focus (repeat (first|exact zH _|apply zT)))|apply zD|exact zA _ _))
theorem LG.at_base (g : LG) : g.at g.base = none := by unfold LG.at; rw [if_neg (by omega)]
theorem LG.at_i (g : LG) {i : Nat} {e : Ent} (h : g.all[i]? = some e) : g.at (g.base + 1 + i) = some e := by
  have hi : i < g.all.length := (List.getElem?_eq_some_iff.1 h).1
  unfold LG.at LG.last
  rw [if_pos (by omega), show (g.base + 1 + (i : Int) - g.base - 1).toNat = i by omega, h]
theorem LG.termAt_i (g : LG) {i : Nat} {e : Ent} (h : g.all[i]? = some e) : g.termAt (g.base + 1 + i) = some e.1 := by
  unfold LG.termAt
  rw [if_neg (by omega), g.at_i h]; rfl
theorem LG.termAt_next (g : LG) : g.termAt (g.last + 1) = none := by
  unfold LG.termAt LG.at LG.last
  rw [if_neg (by omega), if_neg (by omega)]; rfl
theorem LG.termAt_base (g : LG) : g.termAt g.base = some g.baseT := by
  unfold LG.termAt; rw [if_pos rfl]
theorem holds_q {R : Hp} (b : Nat) (d : Option Addr) (va v2 : Value) (g : LG) (hg : g.ok) (hva : FrX entE R g.all va) (hv2 : FrX entE R g.all v2) :
    Tri Try.prog 12 [.pointer (some ⟨b, 0, none⟩), .agg ⟨rlC v2 g⟩] R [lgB b d va g] (fun x R' L' => R.le R' ∧ x = .bool true ∧ L' = [lgB b d va g]) := by
  have hb := hg.base
  have hn := hg.alln
  have hle : g.last = g.base + g.all.length := rfl
  have hbq := lgBase_q (R := R) b d va g
  have hlq := lgLast_q (R := R) b d va g hg hva
  have hrq := rlLast_q (R := R) v2 g hg hv2
  have htq := lgTerm_q (R := R) b d va g
  have hvq := lgVote_q (R := R) b d va g
  obtain ⟨q, cap, rfl, hq1, hq2⟩ := hv2.shape
  unfold rlC at hrq ⊢
  refine tri_of Try.func12 rfl Try.ntmps12 rfl (fun σ F Q hret hend hpan => ?_)
  try simp only [List.cons_append, List.nil_append]
  refine cj_env (eL 0 rfl (eL 1 rfl eN)) ?_
  refine cj_seq (fun K1 hK1 => ?_)
  refine cj_region ?_
  refine rj_box (wn0 rfl) rfl rfl rfl (fun b3 => ?_)
  refine rv0 rfl rfl rfl (y_assign rfl) ?_
  refine rj_nil ?_
  refine hK1 _ _ _ ?_
  refine cj_seq (fun K2 hK2 => ?_)
  refine cj_region ?_
  refine rv0 rfl rfl rfl (y_move rfl) ?_
  refine rv0 rfl rfl rfl (y_call Try.call29 rfl (hbq) (by (repeat (first|exact zN _|(apply zS;focus (repeat (first|exact zH _|apply zT))))))) ?_
  refine rv0 rfl rfl rfl (y_move rfl) ?_
  refine rv0 rfl rfl rfl (y_extract rfl rfl) ?_
  refine rv0 rfl rfl rfl (y_extract rfl rfl) ?_
  refine rv0 rfl rfl rfl (y_extract rfl rfl) ?_
  refine rv0 rfl rfl rfl (y_assign rfl) ?_
  refine rv0 rfl rfl rfl (y_assign rfl) ?_
  refine rv0 rfl rfl rfl (y_assign rfl) ?_
  refine rj_nil ?_
  refine hK2 _ _ _ ?_
  refine cj_env (eL 0 rfl (eL 3 rfl (eL 5 rfl (eL 6 rfl (eL 7 rfl eN))))) ?_
  refine cj_seq (fun K3 hK3 => ?_)
  refine cj_seq (fun K4 hK4 => ?_)
  refine cj_draw (by kernel_rfl) (by kernel_rfl) ?_
  refine qj_val (wn0 rfl) rfl rfl (y_move rfl) ?_
  refine qj_val (wn0 rfl) rfl rfl (y_call Try.call16 rfl (htq) (by (repeat (first|exact zN _|(apply zS;focus (repeat (first|exact zH _|apply zT))))))) ?_
  refine qj_val (wn0 rfl) rfl rfl (y_fieldAddr (k := 0) Try.underlying39 rfl (n := 1) (by decide) Try.sizeOf25 rfl) ?_
  first | refine qj_val (wn0 rfl) rfl rfl (y_load ⟨Try.isAgg25, Try.sizeOf25⟩ rfl (by (repeat (first|exact zH _|apply zT));done) rfl) ?_ | refine qj_val (wn0 rfl) rfl rfl (y_load_slc ⟨Try.isAgg25, Try.sizeOf25⟩ rfl (by (repeat (first|exact zH _|apply zT));done) rfl) ?_
  refine qj_val (wn0 rfl) rfl rfl ((Yld.to (u := .bool false) (y_neq rfl rfl) (by simp))) ?_
  refine qj_val (wn0 rfl) rfl rfl (y_move rfl) ?_
  refine qj_val (wn1 rfl rfl rfl rfl) rfl rfl (y_move rfl) ?_
  refine qj_val (wn1 rfl rfl rfl rfl) rfl rfl (y_call Try.call17 rfl (hvq) (by (repeat (first|exact zN _|(apply zS;focus (repeat (first|exact zH _|apply zT))))))) ?_
  refine qj_val (wn1 rfl rfl rfl rfl) rfl rfl (y_fieldAddr (k := 1) Try.underlying39 rfl (n := 1) (by decide) Try.sizeOf3 rfl) ?_
  first | refine qj_val (wn1 rfl rfl rfl rfl) rfl rfl (y_load ⟨Try.isAgg3, Try.sizeOf3⟩ rfl (by (repeat (first|exact zH _|apply zT));done) rfl) ?_ | refine qj_val (wn1 rfl rfl rfl rfl) rfl rfl (y_load_slc ⟨Try.isAgg3, Try.sizeOf3⟩ rfl (by (repeat (first|exact zH _|apply zT));done) rfl) ?_
  refine qj_val (wn1 rfl rfl rfl rfl) rfl rfl ((Yld.to (u := .bool false) (y_neq rfl rfl) (by simp))) ?_
  refine qj_val (wn0 rfl) rfl rfl (y_pick_f rfl rfl) ?_
  refine qj_val (wn0 rfl) rfl rfl (y_move rfl) ?_
  refine qj_val (wn1 rfl rfl rfl rfl) rfl rfl (y_move rfl) ?_
  refine qj_val (wn1 rfl rfl rfl rfl) rfl rfl (y_fieldAddr (k := 2) Try.underlying39 rfl (n := 1) (by decide) Try.sizeOf25 rfl) ?_
  first | refine qj_val (wn1 rfl rfl rfl rfl) rfl rfl (y_load ⟨Try.isAgg25, Try.sizeOf25⟩ rfl (by (repeat (first|exact zH _|apply zT));done) rfl) ?_ | refine qj_val (wn1 rfl rfl rfl rfl) rfl rfl (y_load_slc ⟨Try.isAgg25, Try.sizeOf25⟩ rfl (by (repeat (first|exact zH _|apply zT));done) rfl) ?_
  refine qj_val (wn1 rfl rfl rfl rfl) rfl rfl ((Yld.to (u := .bool false) (y_neq rfl rfl) (by simp))) ?_
  refine qj_val (wn0 rfl) rfl rfl (y_pick_f rfl rfl) ?_
  refine qj_val (wn0 rfl) rfl rfl (y_move rfl) ?_
  refine qj_val (wn1 rfl rfl rfl rfl) rfl rfl (y_move rfl) ?_
  refine qj_val (wn1 rfl rfl rfl rfl) rfl rfl (y_fieldAddr (k := 3) Try.underlying39 rfl (n := 1) (by decide) Try.sizeOf25 rfl) ?_
  first | refine qj_val (wn1 rfl rfl rfl rfl) rfl rfl (y_load ⟨Try.isAgg25, Try.sizeOf25⟩ rfl (by (repeat (first|exact zH _|apply zT));done) rfl) ?_ | refine qj_val (wn1 rfl rfl rfl rfl) rfl rfl (y_load_slc ⟨Try.isAgg25, Try.sizeOf25⟩ rfl (by (repeat (first|exact zH _|apply zT));done) rfl) ?_
  refine qj_val (wn1 rfl rfl rfl rfl) rfl rfl ((Yld.to (u := .bool false) (y_neq rfl rfl) (by simp))) ?_
  refine qj_val (wn0 rfl) rfl rfl (y_pick_f rfl rfl) ?_
  refine qj_val (wn0 rfl) rfl rfl (y_move rfl) ?_
  refine qj_val (wn1 rfl rfl rfl rfl) rfl rfl (y_move rfl) ?_
  refine qj_val (wn1 rfl rfl rfl rfl) rfl rfl (y_fieldAddr (k := 4) Try.underlying39 rfl (n := 1) (by decide) Try.sizeOf9 rfl) ?_
  first | refine qj_val (wn1 rfl rfl rfl rfl) rfl rfl (y_load ⟨Try.isAgg9, Try.sizeOf9⟩ rfl (by (repeat (first|exact zH _|apply zT));done) rfl) ?_ | refine qj_val (wn1 rfl rfl rfl rfl) rfl rfl (y_load_slc ⟨Try.isAgg9, Try.sizeOf9⟩ rfl (by (repeat (first|exact zH _|apply zT));done) rfl) ?_
  refine qj_val (wn1 rfl rfl rfl rfl) rfl rfl ((Yld.to (u := .bool false) (y_sneq rfl rfl) (by simp))) ?_
  refine qj_val (wn0 rfl) rfl rfl (y_pick_f rfl rfl) ?_
  refine qj_val (wn0 rfl) rfl rfl (y_move rfl) ?_
  refine qj_val (wn1 rfl rfl rfl rfl) rfl rfl (y_move rfl) ?_
  refine qj_val (wn1 rfl rfl rfl rfl) rfl rfl (y_call Try.call15 rfl (hlq) (by (repeat (first|exact zN _|(apply zS;focus (repeat (first|exact zH _|apply zT))))))) ?_
  first | refine qj_val (wn1 rfl rfl rfl rfl) rfl rfl (y_loads_blk ⟨Try.isAgg39, Try.sizeOf39⟩ rfl (by (repeat (first|exact zH _|apply zT));done) rfl rfl) ?_ | refine qj_val (wn1 rfl rfl rfl rfl) rfl rfl (y_loads_slc ⟨Try.isAgg39, Try.sizeOf39⟩ rfl (by (repeat (first|exact zH _|apply zT));done) rfl rfl (by (first | omega | (dsimp only; omega) | (simp; done) | (simp; omega)))) ?_
  refine qj_val (wn1 rfl rfl rfl rfl) rfl rfl (y_call Try.call27 rfl (hrq) (by (repeat (first|exact zN _|(apply zS;focus (repeat (first|exact zH _|apply zT))))))) ?_
  refine qj_val (wn1 rfl rfl rfl rfl) rfl rfl ((Yld.to (u := .bool false) (y_neq rfl rfl) (by simp))) ?_
  refine qj_val (wn0 rfl) rfl rfl (y_pick_f rfl rfl) ?_
  refine qj_nil ?_
  refine hK4 _ _ _ ?_
  refine cj_env (eL 0 rfl (eL 3 rfl (eL 63 rfl eN))) ?_
  refine cj_cond_f rfl ?_
  refine cj_skip ?_
  refine hK3 _ _ _ ?_
  refine cj_seq (fun K5 hK5 => ?_)
  refine cj_seq (fun K6 hK6 => ?_)
  refine cj_region ?_
  refine rv0 rfl rfl rfl (y_fieldAddr (k := 5) Try.underlying39 rfl (n := 1) (by decide) Try.sizeOf22 rfl) ?_
  first | refine rv0 rfl rfl rfl (y_load ⟨Try.isAgg22, Try.sizeOf22⟩ rfl (by (repeat (first|exact zH _|apply zT));done) rfl) ?_ | refine rv0 rfl rfl rfl (y_load_slc ⟨Try.isAgg22, Try.sizeOf22⟩ rfl (by (repeat (first|exact zH _|apply zT));done) rfl) ?_
  first | refine rv0 rfl rfl rfl (y_len_sl Try.underlying22 rfl) ?_ | refine rv0 rfl rfl rfl (y_len_slc Try.underlying22 rfl (by (repeat (first|exact zH _|apply zT));done)) ?_
  refine rv0 rfl rfl rfl (y_move rfl) ?_
  refine rj_nil ?_
  refine hK6 _ _ _ ?_
  refine cj_block ?_
  refine cj_env (E' := (fun (x1 : Nat) => [(0, .pointer (some ⟨b, 0, none⟩)), (3, .pointer (some ⟨b3, 0, none⟩)), (65, .slice q g.all.length cap), (66, .int .i64 (g.all.length : Int)), (67, .int .i64 (x1 : Int))]) 0) (eC rfl (eC rfl (eC rfl (eC rfl (eC rfl eN))))) ?_
  refine cj_sub (M := (fun (x1 : Nat) => lgB b d va g :: blk b3 [.int .u64 g.term, .int .i64 g.vote, .int .u64 g.base, .int .u64 g.baseT, .string (str g.state), .slice q g.all.length cap] 39 :: F) 0) (by (repeat (first|exact zR _|(apply zP;focus (repeat (first|exact zH _|apply zT)))|apply zD|exact zA _ _))) ?_
  refine cj_loop (fun (x1 : Nat) => [(0, .pointer (some ⟨b, 0, none⟩)), (3, .pointer (some ⟨b3, 0, none⟩)), (65, .slice q g.all.length cap), (66, .int .i64 (g.all.length : Int)), (67, .int .i64 (x1 : Int))]) (fun (x1 : Nat) => R) (fun (x1 : Nat) => lgB b d va g :: blk b3 [.int .u64 g.term, .int .i64 g.vote, .int .u64 g.base, .int .u64 g.baseT, .string (str g.state), .slice q g.all.length cap] 39 :: F) (fun (x1 : Nat) => x1 ≤ g.all.length) (fun (x1 : Nat) => g.all.length - x1) 0 (by simp) ?_
  rintro i hi
  try dsimp only
  refine cj_seq (fun K7 hK7 => ?_)
  refine cj_region ?_
  refine rv0 rfl rfl rfl (y_lss rfl rfl) ?_
  refine rj_nil ?_
  refine hK7 _ _ _ ?_
  refine cj_seq (fun K8 hK8 => ?_)
  refine cj_cond rfl (fun hc68 => ?_) (fun hc68 => ?_)
  ·try simp only [dT, dF, nT, nF, tF, fT] at hc68
   refine cj_skip ?_
   refine hK8 _ _ _ ?_
   refine cj_seq (fun K10 hK10 => ?_)
   refine cj_block ?_
   refine cj_seq (fun K11 hK11 => ?_)
   refine cj_region ?_
   have hi2 : i < g.all.length := by (try simp at hc68); omega
   obtain ⟨e, he⟩ : ∃ x, g.all[i]? = some x := ⟨_, List.getElem?_eq_getElem hi2⟩
   obtain ⟨be, oe, ce, cse, hee, rfl, _, hcell⟩ := hv2.at he
   obtain ⟨rfl, rfl⟩ : q = some ⟨be, oe, none⟩ ∧ cap = ce := by cases hee; exact ⟨rfl, rfl⟩
   have hu : u64B (g.base + 1 + i) := by unfold u64B; omega
   have hat := lgAt_q (R := R) b d va g hg hva (g.base + 1 + i) hu
   rw [g.at_i he] at hat
   have htat := lgTermAt_q (R := R) b d va g hg hva (g.base + 1 + i) hu
   rw [g.termAt_i he] at htat
   refine rv0 rfl rfl rfl (y_move rfl) ?_
   first | refine rv0 rfl rfl rfl (y_indexAddr Try.underlying22 Try.sizeOf37 rfl rfl (by (first | omega | (dsimp only; omega) | (simp; done) | (simp; omega)))) ?_ | refine rv0 rfl rfl rfl (y_index_slc Try.underlying22 Try.sizeOf37 rfl rfl (by (repeat (first|exact zH _|apply zT));done) (by (first | omega | (dsimp only; omega) | (simp; done) | (simp; omega)))) ?_
   refine rv0 rfl rfl rfl ((y_loads_ro ⟨Try.isAgg37, Try.sizeOf37⟩ (vs := entC e) rfl rfl (fun j u hj => hcell j u hj))) ?_
   refine rj_alloc (wn0 rfl) rfl Try.zeroValue37 rfl (fun b9 => ?_)
   refine rv0 rfl rfl rfl (y_assign rfl) ?_
   refine rj_stores_all (vs := entC e) ⟨Try.isAgg37, Try.sizeOf37⟩ rfl (wn0 rfl) rfl rfl (entE.one (R := R) (x := e) rfl) (by (repeat (first|exact zH _|apply zT));done) rfl ?_
   refine rj_nil ?_
   refine hK11 _ _ _ ?_
   refine cj_env (eL 0 rfl (eL 3 rfl (eL 8 rfl (eL 9 rfl (eL 65 rfl (eL 66 rfl (eL 67 rfl eN))))))) ?_
   refine cj_seq (fun K12 hK12 => ?_)
   refine cj_region ?_
   refine rv0 rfl rfl rfl (y_fieldAddr (k := 2) Try.underlying39 rfl (n := 1) (by decide) Try.sizeOf25 rfl) ?_
   first | refine rv0 rfl rfl rfl (y_load ⟨Try.isAgg25, Try.sizeOf25⟩ rfl (by (repeat (first|exact zH _|apply zT));done) rfl) ?_ | refine rv0 rfl rfl rfl (y_load_slc ⟨Try.isAgg25, Try.sizeOf25⟩ rfl (by (repeat (first|exact zH _|apply zT));done) rfl) ?_
   refine rv0 rfl rfl rfl ((y_addu rfl rfl (by omega))) ?_
   refine rv0 rfl rfl rfl (y_move rfl) ?_
   refine rv0 rfl rfl rfl ((y_conv_in Try.underlying3 Try.underlying25 rfl (by (simp only [IntKind.min, IntKind.max, IntKind.signed, IntKind.bits, Bool.false_eq_true, ite_false, ite_true]; omega)))) ?_
   refine rv0 rfl rfl rfl ((y_addu rfl rfl (by omega))) ?_
   refine rv0 rfl rfl rfl (y_assign rfl) ?_
   refine rj_nil ?_
   refine hK12 _ _ _ ?_
   refine cj_env (eL 0 rfl (eL 3 rfl (eL 9 rfl (eL 10 rfl (eL 65 rfl (eL 66 rfl (eL 67 rfl eN))))))) ?_
   refine cj_seq (fun K13 hK13 => ?_)
   refine cj_region ?_
   refine rv0 rfl rfl rfl (y_move rfl) ?_
   refine rv0 rfl rfl rfl (y_move rfl) ?_
   refine rv0 rfl rfl rfl (y_call Try.call14 rfl (hat) (by (repeat (first|exact zN _|(apply zS;focus (repeat (first|exact zH _|apply zT))))))) ?_
   refine rv0 rfl rfl rfl (y_move rfl) ?_
   refine rv0 rfl rfl rfl (y_extract rfl rfl) ?_
   refine rv0 rfl rfl rfl (y_extract rfl rfl) ?_
   refine rj_alloc (wn0 rfl) rfl Try.zeroValue37 rfl (fun b11 => ?_)
   refine rj_stores_all (vs := entC e) ⟨Try.isAgg37, Try.sizeOf37⟩ rfl (wn0 rfl) rfl rfl (entE.one (R := R) (x := e) rfl) (by (repeat (first|exact zH _|apply zT));done) rfl ?_
   refine rv0 rfl rfl rfl (y_assign rfl) ?_
   refine rj_nil ?_
   refine hK13 _ _ _ ?_
   refine cj_env (eL 0 rfl (eL 3 rfl (eL 9 rfl (eL 10 rfl (eL 11 rfl (eL 12 rfl (eL 65 rfl (eL 66 rfl (eL 67 rfl eN))))))))) ?_
   refine cj_seq (fun K14 hK14 => ?_)
   refine cj_region ?_
   refine rv0 rfl rfl rfl (y_move rfl) ?_
   refine rv0 rfl rfl rfl (y_move rfl) ?_
   refine rv0 rfl rfl rfl (y_call Try.call30 rfl (htat) (by (repeat (first|exact zN _|(apply zS;focus (repeat (first|exact zH _|apply zT))))))) ?_
   refine rv0 rfl rfl rfl (y_move rfl) ?_
   refine rv0 rfl rfl rfl (y_extract rfl rfl) ?_
   refine rv0 rfl rfl rfl (y_extract rfl rfl) ?_
   refine rv0 rfl rfl rfl (y_assign rfl) ?_
   refine rv0 rfl rfl rfl (y_assign rfl) ?_
   refine rj_nil ?_
   refine hK14 _ _ _ ?_
   refine cj_env (eL 0 rfl (eL 3 rfl (eL 9 rfl (eL 11 rfl (eL 12 rfl (eL 13 rfl (eL 14 rfl (eL 65 rfl (eL 66 rfl (eL 67 rfl eN)))))))))) ?_
   refine cj_seq (fun K15 hK15 => ?_)
   refine cj_region ?_
   refine rv0 rfl rfl rfl (y_move rfl) ?_
   refine rv0 rfl rfl rfl (y_not rfl) ?_
   refine rv0 rfl rfl rfl (y_move rfl) ?_
   refine rj_val (wn1 rfl rfl rfl rfl) rfl rfl (y_move rfl) ?_
   refine rj_val (wn1 rfl rfl rfl rfl) rfl rfl (y_not rfl) ?_
   refine rv0 rfl rfl rfl (y_pick_f rfl rfl) ?_
   refine rv0 rfl rfl rfl (y_move rfl) ?_
   refine rj_val (wn1 rfl rfl rfl rfl) rfl rfl ((y_loads_all (vs := entC e) ⟨Try.isAgg37, Try.sizeOf37⟩ rfl rfl (by (repeat (first|exact zH _|apply zT));done))) ?_
   refine rj_val (wn1 rfl rfl rfl rfl) rfl rfl ((y_loads_all (vs := entC e) ⟨Try.isAgg37, Try.sizeOf37⟩ rfl rfl (by (repeat (first|exact zH _|apply zT));done))) ?_
   refine rj_val (wn1 rfl rfl rfl rfl) rfl rfl ((Yld.to (u := .bool false) (y_stneq (by kernel_rfl) rfl rfl (fun w => ent_neq e e w)) (by simp))) ?_
   refine rv0 rfl rfl rfl (y_pick_f rfl rfl) ?_
   refine rv0 rfl rfl rfl (y_move rfl) ?_
   refine rj_val (wn1 rfl rfl rfl rfl) rfl rfl (y_move rfl) ?_
   refine rj_val (wn1 rfl rfl rfl rfl) rfl rfl (y_fieldAddr (k := 0) Try.underlying37 rfl (n := 1) (by decide) Try.sizeOf25 rfl) ?_
   first | refine rj_val (wn1 rfl rfl rfl rfl) rfl rfl (y_load ⟨Try.isAgg25, Try.sizeOf25⟩ rfl (by (repeat (first|exact zH _|apply zT));done) rfl) ?_ | refine rj_val (wn1 rfl rfl rfl rfl) rfl rfl (y_load_slc ⟨Try.isAgg25, Try.sizeOf25⟩ rfl (by (repeat (first|exact zH _|apply zT));done) rfl) ?_
   refine rj_val (wn1 rfl rfl rfl rfl) rfl rfl ((Yld.to (u := .bool false) (y_neq rfl rfl) (by simp))) ?_
   refine rv0 rfl rfl rfl (y_pick_f rfl rfl) ?_
   refine rj_nil ?_
   refine hK15 _ _ _ ?_
   refine cj_env (eL 0 rfl (eL 3 rfl (eL 65 rfl (eL 66 rfl (eL 67 rfl (eL 106 rfl eN)))))) ?_
   refine cj_cond_f rfl ?_
   refine cj_skip ?_
   refine hK10 _ _ _ ?_
   refine cj_region ?_
   first | refine rv0 rfl rfl rfl (y_add64 rfl rfl (by (first | omega | (dsimp only; omega) | (simp; done) | (simp; omega)))) ?_ | refine rv0 rfl rfl rfl (y_add rfl rfl) ?_
   refine rv0 rfl rfl rfl (y_move rfl) ?_
   refine rj_nil ?_
   refine ej_on (q' := roundK _ _ _ _ _ _ _) rfl ?_
   refine ej_round (i + 1) (by omega) (by omega) (eC rfl (eC rfl (eC rfl (eC rfl (eC rfl eN))))) rfl (by (repeat (first|exact zR _|(apply zP;focus (repeat (first|exact zH _|apply zT)))|apply zD|exact zA _ _)))
  ·try simp only [dT, dF, nT, nF, tF, fT] at hc68
   refine cj_exit ?_
   refine hK5 _ _ _ ?_
   refine cj_env (eL 0 rfl (eL 3 rfl eN)) ?_
   refine cj_seq (fun K16 hK16 => ?_)
   refine cj_region ?_
   have hub : u64B g.base := by unfold u64B; omega
   have hul : u64B (g.last + 1) := by unfold u64B; omega
   have hab := lgAt_q (R := R) b d va g hg hva g.base hub
   rw [g.at_base] at hab
   have htl := lgTermAt_q (R := R) b d va g hg hva (g.last + 1) hul
   rw [g.termAt_next] at htl
   have htb := lgTermAt_q (R := R) b d va g hg hva g.base hub
   rw [g.termAt_base] at htb
   refine rv0 rfl rfl rfl (y_move rfl) ?_
   refine rv0 rfl rfl rfl (y_fieldAddr (k := 2) Try.underlying39 rfl (n := 1) (by decide) Try.sizeOf25 rfl) ?_
   first | refine rv0 rfl rfl rfl (y_load ⟨Try.isAgg25, Try.sizeOf25⟩ rfl (by (repeat (first|exact zH _|apply zT));done) rfl) ?_ | refine rv0 rfl rfl rfl (y_load_slc ⟨Try.isAgg25, Try.sizeOf25⟩ rfl (by (repeat (first|exact zH _|apply zT));done) rfl) ?_
   refine rv0 rfl rfl rfl (y_call Try.call14 rfl (hab) (by (repeat (first|exact zN _|(apply zS;focus (repeat (first|exact zH _|apply zT))))))) ?_
   refine rv0 rfl rfl rfl (y_move rfl) ?_
   refine rv0 rfl rfl rfl (y_extract rfl rfl) ?_
   refine rv0 rfl rfl rfl (y_extract rfl rfl) ?_
   refine rj_alloc (wn0 rfl) rfl Try.zeroValue37 rfl (fun b15 => ?_)
   refine rj_stores_all (vs := entC (0, [])) ⟨Try.isAgg37, Try.sizeOf37⟩ rfl (wn0 rfl) rfl rfl (entE.one (R := R) (x := (0, [])) rfl) (by (repeat (first|exact zH _|apply zT));done) rfl ?_
   refine rv0 rfl rfl rfl (y_assign rfl) ?_
   refine rj_nil ?_
   refine hK16 _ _ _ ?_
   refine cj_env (eL 0 rfl (eL 3 rfl (eL 16 rfl eN))) ?_
   refine cj_seq (fun K17 hK17 => ?_)
   refine cj_region ?_
   refine rv0 rfl rfl rfl (y_move rfl) ?_
   first | refine rv0 rfl rfl rfl (y_loads_blk ⟨Try.isAgg39, Try.sizeOf39⟩ rfl (by (repeat (first|exact zH _|apply zT));done) rfl rfl) ?_ | refine rv0 rfl rfl rfl (y_loads_slc ⟨Try.isAgg39, Try.sizeOf39⟩ rfl (by (repeat (first|exact zH _|apply zT));done) rfl rfl (by (first | omega | (dsimp only; omega) | (simp; done) | (simp; omega)))) ?_
   refine rv0 rfl rfl rfl (y_call Try.call27 rfl (hrq) (by (repeat (first|exact zN _|(apply zS;focus (repeat (first|exact zH _|apply zT))))))) ?_
   refine rv0 rfl rfl rfl ((y_addu rfl rfl (by omega))) ?_
   refine rv0 rfl rfl rfl (y_call Try.call30 rfl (htl) (by (repeat (first|exact zN _|(apply zS;focus (repeat (first|exact zH _|apply zT))))))) ?_
   refine rv0 rfl rfl rfl (y_move rfl) ?_
   refine rv0 rfl rfl rfl (y_extract rfl rfl) ?_
   refine rv0 rfl rfl rfl (y_extract rfl rfl) ?_
   refine rv0 rfl rfl rfl (y_assign rfl) ?_
   refine rv0 rfl rfl rfl (y_assign rfl) ?_
   refine rj_nil ?_
   refine hK17 _ _ _ ?_
   refine cj_env (eL 0 rfl (eL 3 rfl (eL 16 rfl (eL 18 rfl eN)))) ?_
   refine cj_seq (fun K18 hK18 => ?_)
   refine cj_region ?_
   refine rv0 rfl rfl rfl (y_move rfl) ?_
   refine rv0 rfl rfl rfl (y_fieldAddr (k := 2) Try.underlying39 rfl (n := 1) (by decide) Try.sizeOf25 rfl) ?_
   first | refine rv0 rfl rfl rfl (y_load ⟨Try.isAgg25, Try.sizeOf25⟩ rfl (by (repeat (first|exact zH _|apply zT));done) rfl) ?_ | refine rv0 rfl rfl rfl (y_load_slc ⟨Try.isAgg25, Try.sizeOf25⟩ rfl (by (repeat (first|exact zH _|apply zT));done) rfl) ?_
   refine rv0 rfl rfl rfl (y_call Try.call30 rfl (htb) (by (repeat (first|exact zN _|(apply zS;focus (repeat (first|exact zH _|apply zT))))))) ?_
   refine rv0 rfl rfl rfl (y_move rfl) ?_
   refine rv0 rfl rfl rfl (y_extract rfl rfl) ?_
   refine rv0 rfl rfl rfl (y_extract rfl rfl) ?_
   refine rv0 rfl rfl rfl (y_assign rfl) ?_
   refine rv0 rfl rfl rfl (y_assign rfl) ?_
   refine rj_nil ?_
   refine hK18 _ _ _ ?_
   refine cj_env (eL 3 rfl (eL 16 rfl (eL 18 rfl (eL 19 rfl (eL 20 rfl eN))))) ?_
   refine cj_seq (fun K19 hK19 => ?_)
   refine cj_region ?_
   refine rv0 rfl rfl rfl (y_move rfl) ?_
   refine rv0 rfl rfl rfl (y_not rfl) ?_
   refine rv0 rfl rfl rfl (y_move rfl) ?_
   refine rj_val (wn1 rfl rfl rfl rfl) rfl rfl (y_move rfl) ?_
   refine rj_val (wn1 rfl rfl rfl rfl) rfl rfl (y_not rfl) ?_
   refine rv0 rfl rfl rfl (y_pick_t rfl rfl) ?_
   refine rv0 rfl rfl rfl (y_move rfl) ?_
   refine rj_val (wn1 rfl rfl rfl rfl) rfl rfl (y_move rfl) ?_
   refine rv0 rfl rfl rfl (y_pick_t rfl rfl) ?_
   refine rv0 rfl rfl rfl (y_move rfl) ?_
   refine rj_val (wn1 rfl rfl rfl rfl) rfl rfl (y_move rfl) ?_
   refine rj_val (wn1 rfl rfl rfl rfl) rfl rfl (y_fieldAddr (k := 3) Try.underlying39 rfl (n := 1) (by decide) Try.sizeOf25 rfl) ?_
   first | refine rj_val (wn1 rfl rfl rfl rfl) rfl rfl (y_load ⟨Try.isAgg25, Try.sizeOf25⟩ rfl (by (repeat (first|exact zH _|apply zT));done) rfl) ?_ | refine rj_val (wn1 rfl rfl rfl rfl) rfl rfl (y_load_slc ⟨Try.isAgg25, Try.sizeOf25⟩ rfl (by (repeat (first|exact zH _|apply zT));done) rfl) ?_
   refine rj_val (wn1 rfl rfl rfl rfl) rfl rfl ((Yld.to (u := .bool true) (y_eql rfl rfl) (by simp))) ?_
   refine rv0 rfl rfl rfl (y_pick_t rfl rfl) ?_
   refine rv0 rfl rfl rfl (y_assign rfl) ?_
   refine rj_nil ?_
   refine hK19 _ _ _ ?_
   refine cj_env (eL 4 rfl eN) ?_
   refine cj_ret ?_
   refine hret _ _ _ ?_
   apply ej_ret Try.results12 (.cons (rv_tmp rfl) .nil) _ [lgB b d (va) g] (by (first | exact Hp.le_refl _ | assumption | exact Hp.le_trans ‹_› ‹_›)) rfl
   case hp => exact ⟨Hp.le_refl _, rfl, rfl⟩
   case hS => (repeat (first|exact zR _|(apply zP;focus (repeat (first|exact zH _|apply zT)))|apply zD|exact zA _ _))
end V
end Go.Proofs.Ytcgjlhhfldkdaaa
