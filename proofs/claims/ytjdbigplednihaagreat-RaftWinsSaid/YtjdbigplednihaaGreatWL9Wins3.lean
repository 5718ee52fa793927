/- Parts that the texts behind stand on: T9b, V22, T9c, T9d, T9e, V23, T9f, T9g, T9h, T9i. -/
import Derived.Test.YtjdbigplednihaaGreatWL9Wins2
import Derived.Laws.MakeOwn
set_option linter.unusedSimpArgs false
set_option linter.unusedVariables false
set_option maxRecDepth 100000
namespace Go.Proofs.YtjdbigplednihaaGreat
open Go.RowKit
namespace V
set_option maxHeartbeats 4000000
def NV.sent (v : NV) (vo : Value) (css : List (List Value)) : NV := { v with vo := vo, css := css }
theorem msgC_one {m : Msg} {ve : Value} (h : ve.oneCell' = true) : ∀ u ∈ msgC m ve, u.oneCell' = true := fun u hu => by
  simp only [msgC, List.mem_cons, List.not_mem_nil, or_false] at hu
  rcases hu with rfl | rfl | rfl | rfl | rfl | rfl | rfl | rfl | rfl | rfl <;> first | rfl | assumption
theorem els_flen {R : Hp} {l : List Msg} {css : List (List Value)} (h : Els msgE R l css) : css.flatten.length = l.length * 10 := h.flat
theorem flat1 (css : List (List Value)) (c : List Value) : css.flatten ++ c = (css ++ [c]).flatten := by simp
theorem send_t {R : Hp} (b : NB) (v : NV) (x : ND) (m : Msg) (ve : Value) (ho : Els msgE R x.out v.css) (hvo : v.vo.oneCell' = true) (hl : x.out.length ≤ 100000) (hve : FrX entE R m.es ve) :
    Tri Tryz.prog 62 [.pointer (some ⟨b.x, 0, none⟩), .agg ⟨msgC m ve⟩] R [ndB b v x, lgN b v x, outA v x]
      (fun r R' L' => ∃ vo css, Els msgE R' (x.send m).out css ∧ vo.oneCell' = true ∧ L' = [ndB b (v.sent vo css) (x.send m), lgN b (v.sent vo css) (x.send m), outA (v.sent vo css) (x.send m)]) := by
  have hveo := hve.one
  have hfl := els_flen ho
  refine tri_of Tryz.func62 rfl Tryz.ntmps62 rfl (fun σ F Q hret hend hpan => ?_)
  try simp only [List.cons_append, List.nil_append]
  refine cj_env (eL 0 rfl (eL 1 rfl eN)) ?_
  unfold ndB ndC lgN lgB lgC at *
  unfold outA
  refine cj_seq (fun K1 hK1 => ?_)
  refine cj_region ?_
  refine rj_box (wn0 rfl) rfl rfl rfl (fun b3 => ?_)
  refine rj_nil ?_
  refine hK1 _ _ _ ?_
  refine cj_seq (fun K2 hK2 => ?_)
  refine cj_mixg (L := [blk b.x (ndC b v x) 81, lgN b v x]) [0, 1, 2, 3, 4, 5, 6, 7, 8, 9] [] [10, 11, 12] _ (by (repeat (first|exact zR _|(apply zP;focus (repeat (first|exact zH _|apply zT)))|apply zD|exact zA _ _))) (by kernel_rfl) (by kernel_rfl) (by kernel_rfl) rfl ?_
  refine fj_val rfl rfl rfl (wn0 rfl) (fun R1 hR1 G => (y_move rfl)) ?_
  refine fj_val rfl rfl rfl (wn0 rfl) (fun R1 hR1 G => (y_nilCheck rfl)) ?_
  refine fj_val rfl rfl rfl (wn0 rfl) (fun R1 hR1 G => (y_fieldAddr (k := 0) Tryz.underlying81 rfl (n := 1) (by decide) Tryz.sizeOf3 rfl)) ?_
  first | refine fj_val rfl rfl rfl (wn0 rfl) (fun R1 hR1 G => (y_load ⟨Tryz.isAgg3, Tryz.sizeOf3⟩ rfl (by (repeat (first|exact zH _|apply zT));done) rfl)) ?_ | refine fj_val rfl rfl rfl (wn0 rfl) (fun R1 hR1 G => (y_load_slc ⟨Tryz.isAgg3, Tryz.sizeOf3⟩ rfl (by (repeat (first|exact zH _|apply zT));done) rfl)) ?_
  refine fj_val rfl rfl rfl (wn0 rfl) (fun R1 hR1 G => (y_move rfl)) ?_
  refine fj_val rfl rfl rfl (wn0 rfl) (fun R1 hR1 G => (y_nilCheck rfl)) ?_
  refine fj_val rfl rfl rfl (wn0 rfl) (fun R1 hR1 G => (y_fieldAddr (k := 2) Tryz.underlying81 rfl (n := 1) (by decide) Tryz.sizeOf44 rfl)) ?_
  first | refine fj_val rfl rfl rfl (wn0 rfl) (fun R1 hR1 G => (y_load ⟨Tryz.isAgg44, Tryz.sizeOf44⟩ rfl (by (repeat (first|exact zH _|apply zT));done) rfl)) ?_ | refine fj_val rfl rfl rfl (wn0 rfl) (fun R1 hR1 G => (y_load_slc ⟨Tryz.isAgg44, Tryz.sizeOf44⟩ rfl (by (repeat (first|exact zH _|apply zT));done) rfl)) ?_
  refine fj_val rfl rfl rfl (wn0 rfl) (fun R1 hR1 G => (y_call Tryz.call13 rfl (lgTerm_q b.l (some ⟨b.d, 0, none⟩) v.va x.g) (by (repeat (first|exact zN _|(apply zS;focus (repeat (first|exact zH _|apply zT)))))))) ?_
  refine fj_val rfl rfl rfl (wn0 rfl) (fun R1 hR1 G => (y_fieldAddr (k := 1) Tryz.underlying48 rfl (n := 1) (by decide) Tryz.sizeOf3 rfl)) ?_
  refine fj_nil ?_
  refine xj_nil ?_
  try simp only [List.cons_append, List.nil_append, List.append_nil]
  refine rj_store ⟨Tryz.isAgg3, Tryz.sizeOf3⟩ (wn0 rfl) rfl rfl (by (first | rfl | assumption | (apply cutV_one; assumption))) (by (repeat (first|exact zH _|apply zT));done) rfl rfl ?_
  refine rv0 rfl rfl rfl (y_fieldAddr (k := 3) Tryz.underlying48 rfl (n := 1) (by decide) Tryz.sizeOf31 rfl) ?_
  refine rj_store ⟨Tryz.isAgg31, Tryz.sizeOf31⟩ (wn0 rfl) rfl rfl (by (first | rfl | assumption | (apply cutV_one; assumption))) (by (repeat (first|exact zH _|apply zT));done) rfl rfl ?_
  refine rj_nil ?_
  refine hK2 _ _ _ ?_
  refine cj_env (eL 0 rfl (eL 3 rfl eN)) ?_
  refine cj_mixg (L := [blk b3 (msgC { m with frm := x.id, term := x.g.term } ve) 48, blk b.x (ndC b v x) 81]) [0, 1, 2, 3, 4, 5] [6, 7] [8, 9, 10] _ (by (repeat (first|exact zR _|(apply zP;focus (repeat (first|exact zH _|apply zT)))|apply zD|exact zA _ _))) (by kernel_rfl) (by kernel_rfl) (by kernel_rfl) rfl ?_
  refine fj_val rfl rfl rfl (wn0 rfl) (fun R1 hR1 G => (y_move rfl)) ?_
  refine fj_val rfl rfl rfl (wn0 rfl) (fun R1 hR1 G => (y_move rfl)) ?_
  refine fj_val rfl rfl rfl (wn0 rfl) (fun R1 hR1 G => (y_nilCheck rfl)) ?_
  refine fj_val rfl rfl rfl (wn0 rfl) (fun R1 hR1 G => (y_fieldAddr (k := 9) Tryz.underlying81 rfl (n := 1) (by decide) Tryz.sizeOf28 rfl)) ?_
  first | refine fj_val rfl rfl rfl (wn0 rfl) (fun R1 hR1 G => (y_load ⟨Tryz.isAgg28, Tryz.sizeOf28⟩ rfl (by (repeat (first|exact zH _|apply zT));done) rfl)) ?_ | refine fj_val rfl rfl rfl (wn0 rfl) (fun R1 hR1 G => (y_load_slc ⟨Tryz.isAgg28, Tryz.sizeOf28⟩ rfl (by (repeat (first|exact zH _|apply zT));done) rfl)) ?_
  refine fj_val rfl rfl rfl (wn0 rfl) (fun R1 hR1 G => (y_loads_all (vs := msgC { m with frm := x.id, term := x.g.term } ve) ⟨Tryz.isAgg48, Tryz.sizeOf48⟩ rfl rfl (by (repeat (first|exact zH _|apply zT));done))) ?_
  refine fj_nil ?_
  refine xj_rj rfl ?_
  try simp only [List.cons_append, List.nil_append, List.append_nil]
  refine rj_buildSlice (sz := 10) (wn0 rfl) rfl Tryz.underlying28 Tryz.sizeOf48 Tryz.zeroValue48 rfl rfl rfl (by decide) (by decide) (fun b21 => ?_)
  refine rj_xk (by (first | exact Hp.le_refl _ | assumption | exact Hp.le_trans ‹_› ‹_›)) (by (repeat (first|exact zR _|(apply zP;focus (repeat (first|exact zH _|apply zT)))|apply zD|exact zA _ _))) ?_
  refine xj_rj rfl ?_
  try simp only [List.cons_append, List.nil_append, List.append_nil]
  refine rj_append (sz := 10) (by_ := 104) ⟨Tryz.underlying28, _, _, rfl, rfl, rfl, rfl, rfl⟩ (wn0 rfl) rfl rfl rfl (by (repeat (first|exact zH _|apply zT));done) (src_slc (xs := msgC { m with frm := x.id, term := x.g.term } ve) Tryz.underlying28 (by (repeat (first|exact zH _|apply zT));done) (msgC_one hveo)) rfl (by (first | omega | (dsimp only; omega) | (simp; done) | (simp; omega))) (by simp only [maxLen]; omega) (fun v22 ho22 hh22 => ?_)
  rw [flat1]
  refine rj_xk (by (first | exact Hp.le_refl _ | assumption | exact Hp.le_trans ‹_› ‹_›)) (by (repeat (first|exact zR _|(apply zP;focus (repeat (first|exact zH _|apply zT)))|apply zD|exact zA _ _))) ?_
  refine xj_nil ?_
  try simp only [List.cons_append, List.nil_append, List.append_nil]
  refine rv0 rfl rfl rfl (y_nilCheck rfl) ?_
  refine rv0 rfl rfl rfl (y_fieldAddr (k := 9) Tryz.underlying81 rfl (n := 1) (by decide) Tryz.sizeOf28 rfl) ?_
  refine rj_store ⟨Tryz.isAgg28, Tryz.sizeOf28⟩ (wn0 rfl) rfl rfl (by (first | rfl | assumption | (apply cutV_one; assumption))) (by (repeat (first|exact zH _|apply zT));done) rfl rfl ?_
  refine rj_nil ?_
  refine hend _ _ _ ?_
  have hok : Els msgE R (x.send m).out (v.css ++ [msgC { m with frm := x.id, term := x.g.term } ve]) := ho.snoc (y := { m with frm := x.id, term := x.g.term }) ⟨ve, rfl, hve⟩
  have hlen : (x.send m).out.length = x.out.length + 1 := by simp [ND.send]
  apply ej_end Tryz.results62 .nil _ [ndB b (v.sent v22 (v.css ++ [msgC { m with frm := x.id, term := x.g.term } ve])) (x.send m), lgN b (v.sent v22 (v.css ++ [msgC { m with frm := x.id, term := x.g.term } ve])) (x.send m), slc 48 10 v22 (x.out.length + 1) (v.css ++ [msgC { m with frm := x.id, term := x.g.term } ve]).flatten] (by first | exact Hp.le_refl _ | assumption) rfl
  case hp => exact ⟨v22, _, hok, by assumption, by rw [← hlen]; rfl⟩
  case hS => (repeat (first|exact zR _|(apply zP;focus (repeat (first|exact zH _|apply zT)))|apply zD|exact zA _ _))
theorem answer_t {R : Hp} (b : NB) (v : NV) (x : ND) (m : Msg) (ve : Value) (ok : Bool) (i : Int) (ho : Els msgE R x.out v.css) (hvo : v.vo.oneCell' = true) (hl : x.out.length ≤ 100000) (hve : ve.oneCell' = true) :
    Tri Tryz.prog 68 [.pointer (some ⟨b.x, 0, none⟩), .agg ⟨msgC m ve⟩, .bool ok, .int .u64 i] R [ndB b v x, lgN b v x, outA v x]
      (fun r R' L' => ∃ vo css, Els msgE R' (x.answer m ok i).out css ∧ vo.oneCell' = true ∧ L' = [ndB b (v.sent vo css) (x.answer m ok i), lgN b (v.sent vo css) (x.answer m ok i), outA (v.sent vo css) (x.answer m ok i)]) := by
  refine tri_of Tryz.func68 rfl Tryz.ntmps68 rfl (fun σ F Q hret hend hpan => ?_)
  try simp only [List.cons_append, List.nil_append]
  refine cj_env (eL 0 rfl (eL 1 rfl (eL 2 rfl (eL 3 rfl eN)))) ?_
  refine cj_seq (fun K1 hK1 => ?_)
  refine cj_region ?_
  refine rj_box (wn0 rfl) rfl rfl rfl (fun b5 => ?_)
  refine rj_nil ?_
  refine hK1 _ _ _ ?_
  refine cj_region ?_
  refine rv0 rfl rfl rfl (y_move rfl) ?_
  refine rv0 rfl rfl rfl (y_fieldAddr (k := 1) Tryz.underlying48 rfl (n := 1) (by decide) Tryz.sizeOf3 rfl) ?_
  first | refine rv0 rfl rfl rfl (y_load ⟨Tryz.isAgg3, Tryz.sizeOf3⟩ rfl (by (repeat (first|exact zH _|apply zT));done) rfl) ?_ | refine rv0 rfl rfl rfl (y_load_slc ⟨Tryz.isAgg3, Tryz.sizeOf3⟩ rfl (by (repeat (first|exact zH _|apply zT));done) rfl) ?_
  refine rv0 rfl rfl rfl (y_move rfl) ?_
  refine rv0 rfl rfl rfl (y_move rfl) ?_
  refine rv0 rfl rfl rfl (y_build (cells := [_, _, _, _, _, _, _, _, _, _]) [(0, 1), (1, 1), (2, 1), (3, 1), (4, 1), (5, 1), (6, 1), (7, 1), (8, 1), (9, 1)] Tryz.underlying48 Tryz.zeroValue48 (fun _ => rfl) rfl rfl) ?_
  refine rj_call (wn0 rfl) rfl Tryz.call62 rfl (send_t b v x { Msg.zero with kind := 3, to := m.frm, ok := ok, index := i } (.slice none 0 0) ho hvo hl FrX.nil) (by (repeat (first|exact zN _|(apply zS;focus (repeat (first|exact zH _|apply zT)))))) (fun _ _ _ _ h => h.elim) ?_
  rintro r R2 L' hR2 ⟨vo, css, hels, hvo2, rfl⟩
  try simp only [List.cons_append, List.nil_append]
  refine rj_nil ?_
  refine hend _ _ _ ?_
  apply ej_end Tryz.results68 .nil _ [ndB b (v.sent vo css) (x.answer m ok i), lgN b (v.sent vo css) (x.answer m ok i), outA (v.sent vo css) (x.answer m ok i)] hR2 rfl
  case hp => exact ⟨vo, css, hels, hvo2, rfl⟩
  case hS => (repeat (first|exact zR _|(apply zP;focus (repeat (first|exact zH _|apply zT)))|apply zD|exact zA _ _))
theorem pair_nth (l : List (Int × Int)) (k : Nat) (z : Int) (hz : z = k) (hk : k < l.length) : nth (pairsV l) (z.toNat * 2 + 0) = some (.int .u64 (l.getD k (0, 0)).1) ∧ nth (pairsV l) (z.toNat * 2 + 1) = some (.int .u64 (l.getD k (0, 0)).2) := by
  subst hz
  have hc : (l.map pairC)[k]? = some (pairC (l.getD k (0, 0))) := by rw [List.getElem?_map, List.getElem?_eq_getElem hk]; simp [List.getD_eq_getElem?_getD, List.getElem?_eq_getElem hk]
  have h4 : ∀ c ∈ l.map pairC, c.length = 2 := fun c hc => by obtain ⟨p, _, rfl⟩ := List.mem_map.1 hc; rfl
  rw [show ((k : Nat) : Int).toNat = k by simp]
  exact ⟨by rw [nth_get]; exact fget h4 hc rfl, by rw [nth_get]; exact fget h4 hc rfl⟩
theorem pairs_len (l : List (Int × Int)) : (pairsV l).length = l.length * 2 := by
  unfold pairsV
  rw [flen (n := 2) (fun c hc => by obtain ⟨p, _, rfl⟩ := List.mem_map.1 hc; rfl), List.length_map]
theorem LG.at_k (g : LG) (k : Nat) : g.at (g.base + 1 + k) = g.all[k]? := by
  by_cases hk : k < g.all.length
  · rw [List.getElem?_eq_getElem hk]; exact g.at_i (List.getElem?_eq_getElem hk)
  · rw [List.getElem?_eq_none (by omega)]
    unfold LG.at LG.last
    rw [if_neg (by omega)]
theorem entV_cases (o : Option Ent) : ∃ (e : Ent) (ok : Bool), entV o = tupOf [.agg ⟨entC e⟩, .bool ok] ∧ (ok = true → o = some e) ∧ (ok = false → o = none) := by
  cases o with
  | none => exact ⟨(0, []), false, rfl, by simp, by simp⟩
  | some e => exact ⟨e, true, rfl, by simp, by simp⟩
theorem feedMsg_snap {x : ND} {to : Nat} (h : x.nxt to ≤ x.g.base) : x.feedMsg to = { Msg.zero with kind := 4, to := to, index := x.g.base, logTerm := x.g.baseT, state := x.g.state } := by unfold ND.feedMsg; rw [if_pos h]
theorem feedMsg_app {x : ND} {to : Nat} (h : ¬ x.nxt to ≤ x.g.base) : x.feedMsg to = { Msg.zero with kind := 2, to := to, index := x.nxt to - 1, logTerm := x.tAt (x.nxt to - 1), commit := x.commit, es := (x.g.all.drop (x.nxt to - x.g.base - 1).toNat).take 8 } := by unfold ND.feedMsg; rw [if_neg h]
theorem feed_t {R : Hp} (b : NB) (v : NV) (x : ND) (k : Nat) (hk : k ≤ 90) (hx : NIn k x) (hv : NOk R v x) (to : Nat) (hto : to < x.peers.length) :
    Tri Tryz.prog 35 [.pointer (some ⟨b.x, 0, none⟩), .int .i64 (to : Int)] R [ndB b v x, lgN b v x, prA v x, outA v x]
      (fun r R' L' => ∃ vo css, Els msgE R' (x.feed to).out css ∧ vo.oneCell' = true ∧ L' = [ndB b (v.sent vo css) (x.feed to), lgN b (v.sent vo css) (x.feed to), prA (v.sent vo css) (x.feed to), outA (v.sent vo css) (x.feed to)]) := by
  have hg := hx.g (by omega)
  have hva := hv.va
  have ho := hx.out
  have hpm : x.peers.getD to (0, 0) ∈ x.peers := by rw [List.getD_eq_getElem?_getD, List.getElem?_eq_getElem hto]; simp
  obtain ⟨hp1, hp2⟩ := hx.peer _ hpm
  replace hp1 : 1 ≤ x.nxt to ∧ x.nxt to ≤ 200000000000000 := hp1
  have hnx : nth (pairsV x.peers) (((to : Nat) : Int).toNat * 2 + 0) = some (.int .u64 (x.nxt to)) := (pair_nth x.peers to _ rfl hto).1
  have hb := hx.base
  refine tri_of Tryz.func35 rfl Tryz.ntmps35 rfl (fun σ F Q hret hend hpan => ?_)
  try simp only [List.cons_append, List.nil_append]
  refine cj_env (eL 0 rfl (eL 1 rfl eN)) ?_
  unfold ndB ndC
  refine cj_seq (fun K1 hK1 => ?_)
  refine cj_region ?_
  refine rv0 rfl rfl rfl (y_move rfl) ?_
  refine rv0 rfl rfl rfl (y_nilCheck rfl) ?_
  refine rv0 rfl rfl rfl (y_fieldAddr (k := 8) Tryz.underlying81 rfl (n := 1) (by decide) Tryz.sizeOf79 rfl) ?_
  first | refine rv0 rfl rfl rfl (y_load ⟨Tryz.isAgg79, Tryz.sizeOf79⟩ rfl (by (repeat (first|exact zH _|apply zT));done) rfl) ?_ | refine rv0 rfl rfl rfl (y_load_slc ⟨Tryz.isAgg79, Tryz.sizeOf79⟩ rfl (by (repeat (first|exact zH _|apply zT));done) rfl) ?_
  refine rv0 rfl rfl rfl (y_move rfl) ?_
  first | refine rv0 rfl rfl rfl (y_indexAddr Tryz.underlying79 Tryz.sizeOf116 rfl rfl (by (first | omega | (dsimp only; omega) | (simp; done) | (simp; omega)))) ?_ | refine rv0 rfl rfl rfl (y_index_slc Tryz.underlying79 Tryz.sizeOf116 rfl rfl (by (repeat (first|exact zH _|apply zT));done) (by (first | omega | (dsimp only; omega) | (simp; done) | (simp; omega)))) ?_
  refine rv0 rfl rfl rfl ((y_fieldAddr_slc (k := 0) Tryz.underlying116 rfl (m := 1) (by decide) Tryz.sizeOf31 rfl (by (repeat (first|exact zH _|apply zT));done) (by omega))) ?_
  refine rv0 rfl rfl rfl ((y_load_slc ⟨Tryz.isAgg31, Tryz.sizeOf31⟩ rfl (by (repeat (first|exact zH _|apply zT));done) hnx)) ?_
  refine rv0 rfl rfl rfl (y_assign rfl) ?_
  refine rj_nil ?_
  refine hK1 _ _ _ ?_
  refine cj_env (eL 0 rfl (eL 1 rfl (eL 4 rfl eN))) ?_
  refine cj_seq (fun K2 hK2 => ?_)
  refine cj_region ?_
  refine rv0 rfl rfl rfl (y_move rfl) ?_
  refine rv0 rfl rfl rfl (y_nilCheck rfl) ?_
  refine rv0 rfl rfl rfl (y_fieldAddr (k := 2) Tryz.underlying81 rfl (n := 1) (by decide) Tryz.sizeOf44 rfl) ?_
  first | refine rv0 rfl rfl rfl (y_load ⟨Tryz.isAgg44, Tryz.sizeOf44⟩ rfl (by (repeat (first|exact zH _|apply zT));done) rfl) ?_ | refine rv0 rfl rfl rfl (y_load_slc ⟨Tryz.isAgg44, Tryz.sizeOf44⟩ rfl (by (repeat (first|exact zH _|apply zT));done) rfl) ?_
  refine rv0 rfl rfl rfl (y_call Tryz.call18 rfl (lgBase_q b.l (some ⟨b.d, 0, none⟩) v.va x.g) (by (repeat (first|exact zN _|(apply zS;focus (repeat (first|exact zH _|apply zT))))))) ?_
  refine rv0 rfl rfl rfl (y_move rfl) ?_
  refine rv0 rfl rfl rfl (y_extract rfl rfl) ?_
  refine rv0 rfl rfl rfl (y_extract rfl rfl) ?_
  refine rv0 rfl rfl rfl (y_extract rfl rfl) ?_
  refine rv0 rfl rfl rfl (y_assign rfl) ?_
  refine rv0 rfl rfl rfl (y_assign rfl) ?_
  refine rv0 rfl rfl rfl (y_assign rfl) ?_
  refine rj_nil ?_
  refine hK2 _ _ _ ?_
  refine cj_env (eL 0 rfl (eL 1 rfl (eL 4 rfl (eL 5 rfl (eL 6 rfl (eL 7 rfl eN)))))) ?_
  refine cj_seq (fun K3 hK3 => ?_)
  refine cj_seq (fun K4 hK4 => ?_)
  refine cj_region ?_
  refine rv0 rfl rfl rfl (y_move rfl) ?_
  refine rv0 rfl rfl rfl (y_move rfl) ?_
  refine rv0 rfl rfl rfl (y_leq rfl rfl) ?_
  refine rj_nil ?_
  refine hK4 _ _ _ ?_
  refine cj_cond rfl (fun hc31 => ?_) (fun hc31 => ?_)
  ·have f1 : x.nxt to ≤ x.g.base := by simpa using hc31
   have e1 := feedMsg_snap f1
   refine cj_seq (fun K6 hK6 => ?_)
   refine cj_region ?_
   refine rv0 rfl rfl rfl (y_move rfl) ?_
   refine rv0 rfl rfl rfl (y_move rfl) ?_
   refine rv0 rfl rfl rfl (y_move rfl) ?_
   refine rv0 rfl rfl rfl (y_move rfl) ?_
   refine rv0 rfl rfl rfl (y_move rfl) ?_
   refine rv0 rfl rfl rfl (y_build (cells := [_, _, _, _, _, _, _, _, _, _]) [(0, 1), (1, 1), (2, 1), (3, 1), (4, 1), (5, 1), (6, 1), (7, 1), (8, 1), (9, 1)] Tryz.underlying48 Tryz.zeroValue48 (fun _ => rfl) rfl rfl) ?_
   refine rj_call (wn0 rfl) rfl Tryz.call62 rfl (send_t b v x { Msg.zero with kind := 4, to := to, index := x.g.base, logTerm := x.g.baseT, state := x.g.state } (.slice none 0 0) hv.out hv.vo (by omega) FrX.nil) (by (repeat (first|exact zN _|(apply zS;focus (repeat (first|exact zH _|apply zT)))))) (fun _ _ _ _ h => h.elim) ?_
   rintro r R2 L' hR2 ⟨vo, css, hels, hvo2, rfl⟩
   rw [← e1] at hels ⊢
   try simp only [List.cons_append, List.nil_append]
   refine rj_nil ?_
   refine hK6 _ _ _ ?_
   refine cj_env eN ?_
   refine cj_ret ?_
   refine hret _ _ _ ?_
   apply ej_ret Tryz.results35 .nil _ [ndB b (v.sent vo css) (x.feed to), lgN b (v.sent vo css) (x.feed to), prA (v.sent vo css) (x.feed to), outA (v.sent vo css) (x.feed to)] hR2 rfl
   case hp => exact ⟨vo, css, hels, hvo2, rfl⟩
   case hS => (repeat (first|exact zR _|(apply zP;focus (repeat (first|exact zH _|apply zT)))|apply zD|exact zA _ _))
  ·have f1 : ¬ x.nxt to ≤ x.g.base := by simpa using hc31
   have e1 := feedMsg_app f1
   obtain ⟨s, hs⟩ : ∃ s : Nat, x.nxt to = x.g.base + 1 + s := ⟨(x.nxt to - x.g.base - 1).toNat, by omega⟩
   have hs2 : (x.nxt to - x.g.base - 1).toNat = s := by omega
   rw [hs2] at e1
   refine cj_skip ?_
   refine hK3 _ _ _ ?_
   refine cj_env (eL 0 rfl (eL 1 rfl (eL 4 rfl eN))) ?_
   refine cj_seq (fun K7 hK7 => ?_)
   refine cj_mixg (L := [blk b.x (ndC b v x) 81, lgN b v x]) [0, 1, 2, 3, 4, 5, 6, 7, 8, 9, 10, 11] [12] [13] _ (by (repeat (first|exact zR _|(apply zP;focus (repeat (first|exact zH _|apply zT)))|apply zD|exact zA _ _))) (by kernel_rfl) (by kernel_rfl) (by kernel_rfl) rfl ?_
   refine fj_val rfl rfl rfl (wn0 rfl) (fun R1 hR1 G => (y_move rfl)) ?_
   refine fj_val rfl rfl rfl (wn0 rfl) (fun R1 hR1 G => (y_move rfl)) ?_
   refine fj_val rfl rfl rfl (wn0 rfl) (fun R1 hR1 G => (y_subu rfl rfl (by omega))) ?_
   refine fj_val rfl rfl rfl (wn0 rfl) (fun R1 hR1 G => (y_move rfl)) ?_
   refine fj_val rfl rfl rfl (wn0 rfl) (fun R1 hR1 G => (y_move rfl)) ?_
   refine fj_val rfl rfl rfl (wn0 rfl) (fun R1 hR1 G => (y_subu rfl rfl (by omega))) ?_
   refine fj_val rfl rfl rfl (wn0 rfl) (fun R1 hR1 G => (y_call Tryz.call63 rfl (ndTermAt_q b v x hg (hva.mono hR1) (x.nxt to - 1) (by unfold u64B; omega)) (by (repeat (first|exact zN _|(apply zS;focus (repeat (first|exact zH _|apply zT)))))))) ?_
   refine fj_val rfl rfl rfl (wn0 rfl) (fun R1 hR1 G => (y_move rfl)) ?_
   refine fj_val rfl rfl rfl (wn0 rfl) (fun R1 hR1 G => (y_nilCheck rfl)) ?_
   refine fj_val rfl rfl rfl (wn0 rfl) (fun R1 hR1 G => (y_fieldAddr (k := 5) Tryz.underlying81 rfl (n := 1) (by decide) Tryz.sizeOf31 rfl)) ?_
   first | refine fj_val rfl rfl rfl (wn0 rfl) (fun R1 hR1 G => (y_load ⟨Tryz.isAgg31, Tryz.sizeOf31⟩ rfl (by (repeat (first|exact zH _|apply zT));done) rfl)) ?_ | refine fj_val rfl rfl rfl (wn0 rfl) (fun R1 hR1 G => (y_load_slc ⟨Tryz.isAgg31, Tryz.sizeOf31⟩ rfl (by (repeat (first|exact zH _|apply zT));done) rfl)) ?_
   refine fj_val rfl rfl rfl (wn0 rfl) (fun R1 hR1 G => (y_build (cells := [_, _, _, _, _, _, _, _, _, _]) [(0, 1), (1, 1), (2, 1), (3, 1), (4, 1), (5, 1), (6, 1), (7, 1), (8, 1), (9, 1)] Tryz.underlying48 Tryz.zeroValue48 (fun _ => rfl) rfl rfl)) ?_
   refine fj_nil ?_
   refine xj_rj rfl ?_
   try simp only [List.cons_append, List.nil_append, List.append_nil]
   refine rj_alloc (wn0 rfl) rfl Tryz.zeroValue48 rfl (fun b8 => ?_)
   refine rj_xk (by (first | exact Hp.le_refl _ | assumption | exact Hp.le_trans ‹_› ‹_›)) (by (repeat (first|exact zR _|(apply zP;focus (repeat (first|exact zH _|apply zT)))|apply zD|exact zA _ _))) ?_
   refine xj_nil ?_
   try simp only [List.cons_append, List.nil_append, List.append_nil]
   refine rj_stores ⟨Tryz.isAgg48, Tryz.sizeOf48⟩ rfl (wn0 rfl) rfl rfl (by (first | (simp [Value.oneCell']; done) | (intro u hu; simp only [List.mem_cons, List.not_mem_nil, or_false] at hu; rcases hu with rfl | rfl | rfl | rfl <;> first | rfl | assumption))) (by (repeat (first|exact zH _|apply zT));done) (by (simp)) rfl ?_
   refine rj_nil ?_
   refine hK7 _ _ _ ?_
   refine cj_env (eL 0 rfl (eL 4 rfl (eL 8 rfl eN))) ?_
   refine cj_seq (fun K8 hK8 => ?_)
   have hJ11 : ∀ (x2 : Nat × Value), x2.2.oneCell' = true ∧ (x.g.all.drop s).take x2.1 = (x.g.all.drop s).take 8 → EJ ⟨Tryz.prog, 78, σ⟩ K8 [(0, .pointer (some ⟨b.x, 0, none⟩)), (8, .pointer (some ⟨b8, 0, none⟩))] R (slc 60 2 x2.2 ((x.g.all.drop s).take x2.1).length (entsC ((x.g.all.drop s).take x2.1)) :: blk b8 (msgC { Msg.zero with kind := 2, to := to, index := x.nxt to - 1, logTerm := x.tAt (x.nxt to - 1), commit := x.commit, es := [] } x2.2) 48 :: ndB b v x :: lgN b v x :: prA v x :: outA v x :: F) := by
    rintro ⟨j, vl⟩ ⟨hvl, hfin⟩
    try dsimp only
    dsimp only at hvl hfin
    refine ej_freeze (e := 60) (sz := 2) (n := ((x.g.all.drop s).take j).length) (v := vl) (xs := entsC ((x.g.all.drop s).take j)) (by (repeat (first|exact zH _|apply zT));done) (fun R3 hR3 hfr hxl => ?_)
    have hfx := entsFr hfr
    rw [hfin] at hfx
    refine hK8 _ _ _ ?_
    refine cj_region ?_
    refine rv0 rfl rfl rfl (y_move rfl) ?_
    refine rv0 rfl rfl rfl ((y_loads_all (vs := msgC { Msg.zero with kind := 2, to := to, index := x.nxt to - 1, logTerm := x.tAt (x.nxt to - 1), commit := x.commit, es := (x.g.all.drop s).take 8 } vl) ⟨Tryz.isAgg48, Tryz.sizeOf48⟩ rfl rfl (by (repeat (first|exact zH _|apply zT));done))) ?_
    refine rj_call (wn0 rfl) rfl Tryz.call62 rfl (send_t b v x { Msg.zero with kind := 2, to := to, index := x.nxt to - 1, logTerm := x.tAt (x.nxt to - 1), commit := x.commit, es := (x.g.all.drop s).take 8 } vl (hv.mono hR3).out hv.vo (by omega) hfx) (by (repeat (first|exact zN _|(apply zS;focus (repeat (first|exact zH _|apply zT)))))) (fun _ _ _ _ h => h.elim) ?_
    rintro r R4 L' hR4 ⟨vo, css, hels, hvo2, rfl⟩
    rw [← e1] at hels ⊢
    try simp only [List.cons_append, List.nil_append]
    refine rj_nil ?_
    refine hend _ _ _ ?_
    apply ej_end Tryz.results35 .nil _ [ndB b (v.sent vo css) (x.feed to), lgN b (v.sent vo css) (x.feed to), prA (v.sent vo css) (x.feed to), outA (v.sent vo css) (x.feed to)] (by exact Hp.le_trans hR3 hR4) rfl
    case hp => exact ⟨vo, css, hels, hvo2, rfl⟩
    case hS => (repeat (first|exact zR _|(apply zP;focus (repeat (first|exact zH _|apply zT)))|apply zD|exact zA _ _))
   refine cj_seq (fun K9 hK9 => ?_)
   refine cj_region ?_
   refine rj_add (A := slc 60 2 (.slice none 0 0) 0 (entsC ([] : List Ent))) (slc_nil _ _) ?_
   refine rv0 rfl rfl rfl ((Yld.to (u := .int .u64 (x.nxt to + ((0 : Nat) : Int))) (y_move rfl) (by simp))) ?_
   refine rv0 rfl rfl rfl (y_assign rfl) ?_
   refine rj_nil ?_
   refine hK9 _ _ _ ?_
   refine cj_block ?_
   refine cj_env (E' := (fun (x1 : Nat × Value) => [(0, .pointer (some ⟨b.x, 0, none⟩)), (8, .pointer (some ⟨b8, 0, none⟩)), (9, .int .u64 (x.nxt to + x1.1))]) (0, .slice none 0 0)) (eC rfl (eC rfl (eC rfl eN))) ?_
   refine cj_sub (M := (fun (x1 : Nat × Value) => slc 60 2 x1.2 ((x.g.all.drop s).take x1.1).length (entsC ((x.g.all.drop s).take x1.1)) :: blk b8 (msgC { Msg.zero with kind := 2, to := to, index := x.nxt to - 1, logTerm := x.tAt (x.nxt to - 1), commit := x.commit, es := [] } x1.2) 48 :: ndB b v x :: lgN b v x :: prA v x :: outA v x :: F) (0, .slice none 0 0)) (by (repeat (first|exact zR _|(apply zP;focus (repeat (first|exact zH _|apply zT)))|apply zD|exact zA _ _))) ?_
   refine cj_loop (fun (x1 : Nat × Value) => [(0, .pointer (some ⟨b.x, 0, none⟩)), (8, .pointer (some ⟨b8, 0, none⟩)), (9, .int .u64 (x.nxt to + x1.1))]) (fun (x1 : Nat × Value) => R) (fun (x1 : Nat × Value) => slc 60 2 x1.2 ((x.g.all.drop s).take x1.1).length (entsC ((x.g.all.drop s).take x1.1)) :: blk b8 (msgC { Msg.zero with kind := 2, to := to, index := x.nxt to - 1, logTerm := x.tAt (x.nxt to - 1), commit := x.commit, es := [] } x1.2) 48 :: ndB b v x :: lgN b v x :: prA v x :: outA v x :: F) (fun (x1 : Nat × Value) => x1.1 ≤ 8 ∧ ((x.g.all.drop s).take x1.1).length = x1.1 ∧ x1.2.oneCell' = true) (fun (x1 : Nat × Value) => 8 - x1.1) (0, .slice none 0 0) (⟨by simp, by simp, rfl⟩) ?_
   rintro ⟨j, vl⟩ ⟨hj, hjl, hvl⟩
   try dsimp only
   dsimp only at hj hjl hvl
   refine cj_seq (fun K10 hK10 => ?_)
   refine cj_seq (fun K11 hK11 => ?_)
   refine cj_region ?_
   refine rv0 rfl rfl rfl (y_fieldAddr (k := 8) Tryz.underlying48 rfl (n := 1) (by decide) Tryz.sizeOf32 rfl) ?_
   first | refine rv0 rfl rfl rfl (y_load ⟨Tryz.isAgg32, Tryz.sizeOf32⟩ rfl (by (repeat (first|exact zH _|apply zT));done) rfl) ?_ | refine rv0 rfl rfl rfl (y_load_slc ⟨Tryz.isAgg32, Tryz.sizeOf32⟩ rfl (by (repeat (first|exact zH _|apply zT));done) rfl) ?_
   first | refine rv0 rfl rfl rfl (y_len_sl Tryz.underlying32 rfl) ?_ | refine rv0 rfl rfl rfl (y_len_slc Tryz.underlying32 rfl (by (repeat (first|exact zH _|apply zT));done)) ?_
   refine rv0 rfl rfl rfl (y_lss rfl rfl) ?_
   refine rj_nil ?_
   refine hK11 _ _ _ ?_
   refine cj_env (eL 0 rfl (eL 8 rfl (eL 9 rfl (eL 55 rfl eN)))) ?_
   refine cj_cond rfl (fun hc55 => ?_) (fun hc55 => ?_)
   ·try simp only [dT, dF, nT, nF, tF, fT] at hc55
    refine cj_skip ?_
    refine hK10 _ _ _ ?_
    refine cj_seq (fun K13 hK13 => ?_)
    refine cj_block ?_
    refine cj_seq (fun K14 hK14 => ?_)
    refine cj_region ?_
    have hj8 : j < 8 := by rw [hjl] at hc55; (try simp at hc55); omega
    have hal := hx.alln
    have hat := lgAt_q (R := R) b.l (some ⟨b.d, 0, none⟩) v.va x.g hg hva (x.nxt to + j) (by unfold u64B; omega)
    rw [show x.g.at (x.nxt to + (j : Int)) = x.g.all[s + j]? by rw [show x.nxt to + (j : Int) = x.g.base + 1 + ((s + j : Nat) : Int) by omega, LG.at_k]] at hat
    obtain ⟨e, ok, hev, hok1, hok2⟩ := entV_cases (x.g.all[s + j]?)
    refine rv0 rfl rfl rfl (y_move rfl) ?_
    refine rv0 rfl rfl rfl (y_nilCheck rfl) ?_
    refine rv0 rfl rfl rfl (y_fieldAddr (k := 2) Tryz.underlying81 rfl (n := 1) (by decide) Tryz.sizeOf44 rfl) ?_
    first | refine rv0 rfl rfl rfl (y_load ⟨Tryz.isAgg44, Tryz.sizeOf44⟩ rfl (by (repeat (first|exact zH _|apply zT));done) rfl) ?_ | refine rv0 rfl rfl rfl (y_load_slc ⟨Tryz.isAgg44, Tryz.sizeOf44⟩ rfl (by (repeat (first|exact zH _|apply zT));done) rfl) ?_
    refine rv0 rfl rfl rfl (y_move rfl) ?_
    refine rv0 rfl rfl rfl (y_call Tryz.call20 rfl (hat) (by (repeat (first|exact zN _|(apply zS;focus (repeat (first|exact zH _|apply zT))))))) ?_
    refine rj_eq 64 rfl (v' := tupOf [.agg ⟨entC e⟩, .bool ok]) hev ?_
    refine rv0 rfl rfl rfl (y_move rfl) ?_
    refine rv0 rfl rfl rfl (y_extract rfl rfl) ?_
    refine rv0 rfl rfl rfl (y_extract rfl rfl) ?_
    refine rj_alloc (wn0 rfl) rfl Tryz.zeroValue60 rfl (fun b10 => ?_)
    refine rj_stores_all (vs := entC e) ⟨Tryz.isAgg60, Tryz.sizeOf60⟩ rfl (wn0 rfl) rfl rfl (entE.one (R := R) (x := e) rfl) (by (repeat (first|exact zH _|apply zT));done) rfl ?_
    refine rv0 rfl rfl rfl (y_assign rfl) ?_
    refine rj_nil ?_
    refine hK14 _ _ _ ?_
    refine cj_env (eL 0 rfl (eL 8 rfl (eL 9 rfl (eL 10 rfl (eL 11 rfl eN))))) ?_
    refine cj_seq (fun K15 hK15 => ?_)
    refine cj_seq (fun K16 hK16 => ?_)
    refine cj_region ?_
    refine rv0 rfl rfl rfl (y_move rfl) ?_
    refine rv0 rfl rfl rfl (y_not rfl) ?_
    refine rj_nil ?_
    refine hK16 _ _ _ ?_
    refine cj_cond rfl (fun hc68 => ?_) (fun hc68 => ?_)
    ·have hnone : x.g.all[s + j]? = none := hok2 (by simpa using hc68)
     have hlen : x.g.all.length ≤ s + j := by rw [List.getElem?_eq_none_iff] at hnone; exact hnone
     have hfin : (x.g.all.drop s).take j = (x.g.all.drop s).take 8 := by rw [List.take_of_length_le (by simp; omega), List.take_of_length_le (by simp; omega)]
     refine cj_exit ?_
     refine ej_join hJ11 ((j, vl)) (⟨hvl, hfin⟩) (eC rfl (eC rfl eN)) rfl (by (repeat (first|exact zR _|(apply zP;focus (repeat (first|exact zH _|apply zT)))|apply zD|exact zA _ _)))
    ·have hsome : x.g.all[s + j]? = some e := hok1 (by simpa using hc68)
     have hlen : s + j < x.g.all.length := (List.getElem?_eq_some_iff.1 hsome).1
     have htk : ((x.g.all.drop s).take (j + 1)).length = j + 1 := by simp; omega
     have hdr : (x.g.all.drop s)[j]? = some e := by rw [List.getElem?_drop]; exact hsome
     refine cj_skip ?_
     refine hK15 _ _ _ ?_
     refine cj_env (eL 0 rfl (eL 8 rfl (eL 9 rfl (eL 10 rfl eN)))) ?_
     refine cj_region ?_
     refine rv0 rfl rfl rfl (y_fieldAddr (k := 8) Tryz.underlying48 rfl (n := 1) (by decide) Tryz.sizeOf32 rfl) ?_
     first | refine rv0 rfl rfl rfl (y_load ⟨Tryz.isAgg32, Tryz.sizeOf32⟩ rfl (by (repeat (first|exact zH _|apply zT));done) rfl) ?_ | refine rv0 rfl rfl rfl (y_load_slc ⟨Tryz.isAgg32, Tryz.sizeOf32⟩ rfl (by (repeat (first|exact zH _|apply zT));done) rfl) ?_
     refine rv0 rfl rfl rfl ((y_loads_all (vs := entC e) ⟨Tryz.isAgg60, Tryz.sizeOf60⟩ rfl rfl (by (repeat (first|exact zH _|apply zT));done))) ?_
     refine rj_buildSlice (sz := 2) (wn0 rfl) rfl Tryz.underlying32 Tryz.sizeOf60 Tryz.zeroValue60 rfl rfl rfl (by decide) (by decide) (fun b72 => ?_)
     refine rj_append (sz := 2) (by_ := 24) ⟨Tryz.underlying32, _, _, rfl, rfl, rfl, rfl, rfl⟩ (wn0 rfl) rfl rfl rfl (by (repeat (first|exact zH _|apply zT));done) (src_slc (xs := entC e) Tryz.underlying32 (by (repeat (first|exact zH _|apply zT));done) (entE.one (R := R) (x := e) rfl)) rfl (by (first | omega | (dsimp only; omega) | (simp; done) | (simp; omega))) (by simp only [maxLen]; omega) (fun v73 ho73 hh73 => ?_)
     rw [show entsC ((x.g.all.drop s).take j) ++ entC e = entsC ((x.g.all.drop s).take (j + 1)) by unfold entsC; rw [map_snoc hdr]; simp, show ((x.g.all.drop s).take j).length + 1 = ((x.g.all.drop s).take (j + 1)).length by rw [htk, hjl]]
     refine rv0 rfl rfl rfl (y_fieldAddr (k := 8) Tryz.underlying48 rfl (n := 1) (by decide) Tryz.sizeOf32 rfl) ?_
     refine rj_store ⟨Tryz.isAgg32, Tryz.sizeOf32⟩ (wn0 rfl) rfl rfl (by (first | rfl | assumption | (apply cutV_one; assumption))) (by (repeat (first|exact zH _|apply zT));done) rfl rfl ?_
     refine rj_nil ?_
     refine hK13 _ _ _ ?_
     refine cj_env (eL 0 rfl (eL 8 rfl (eL 9 rfl eN))) ?_
     refine cj_region ?_
     refine rv0 rfl rfl rfl (y_move rfl) ?_
     refine rv0 rfl rfl rfl ((Yld.to (u := .int .u64 (x.nxt to + ((j + 1 : Nat) : Int))) (y_addu rfl rfl (by omega)) (by congr 1; omega))) ?_
     refine rv0 rfl rfl rfl (y_assign rfl) ?_
     refine rj_nil ?_
     refine ej_on (q' := roundK _ _ _ _ _ _ _) rfl ?_
     refine ej_round ((j + 1, v73)) (⟨by dsimp only; omega, htk, by assumption⟩) (by dsimp only; omega) (eC rfl (eC rfl (eC rfl eN))) rfl (by (repeat (first|exact zR _|(apply zP;focus (repeat (first|exact zH _|apply zT)))|apply zD|exact zA _ _)))
   ·have hfin : (x.g.all.drop s).take j = (x.g.all.drop s).take 8 := by rw [hjl] at hc55; rw [show j = 8 by (try simp at hc55); omega]
    refine cj_exit ?_
    refine ej_join hJ11 ((j, vl)) (⟨hvl, hfin⟩) (eC rfl (eC rfl eN)) rfl (by (repeat (first|exact zR _|(apply zP;focus (repeat (first|exact zH _|apply zT)))|apply zD|exact zA _ _)))
end V
end Go.Proofs.YtjdbigplednihaaGreat
set_option linter.unusedSimpArgs false
set_option linter.unusedVariables false
namespace Go.Proofs.YtjdbigplednihaaGreat
open Go.RowKit
namespace V
theorem split_pre (L F : List Asn) : Split (L ++ F) L F := by
  induction L with
  | nil => exact .nil _
  | cons A L ih => exact .cons (.head _) ih
section
variable {c : Cx} {ops : Array Oper} {Q : Exit → Act → World → Prop} {E : Env} {R : Hp} {L : List Asn} {rest : List Oper} {ty : TypeId} {p : String} {af : Array Edge} {g : Option (Nat × Bool)}
theorem run_callf {a : Act} {w : World} {d : Option Tmp} {f : FuncId} {x : Operand} {xs : List Operand} {ts : Array TypeId} {fs vs cs : List Value} (hx : a.eval x = .func (.func f) ⟨fs⟩ ⟨cs⟩) (hc : ∀ args w, (callFunc f args).run c.P w = .ok (.enter f args) w)
    (hv : xs.map a.eval = vs) : (execOp a.eval ⟨d, .call { callee := .value x, args := ⟨xs⟩, argTypes := ts }, ty, p, af, g⟩).run c.P w = .ok (.enter f ⟨fs ++ vs ++ cs⟩) w := by
  have e : (Array.mk xs).map a.eval = ⟨vs⟩ := by rw [← hv]; simp
  have e2 : (Array.mk fs) ++ (Array.mk vs) ++ (Array.mk cs) = ⟨fs ++ vs ++ cs⟩ := by simp
  simp [execOp, resolve, hx, Deferred.ofValue, invoke, e, hc]
theorem rj_callf {d : Nat} {f : FuncId} {x : Operand} {xs : List Operand} {ts : Array TypeId} {fs vs cs : List Value} {pre F : List Asn} {post : Value → Hp → List Asn → Prop} {pan : List PanicEntry → Hp → List Asn → Prop}
    (hw : Wn c ops E ⟨some d, .call { callee := .value x, args := ⟨xs⟩, argTypes := ts }, ty, p, af, g⟩ true) (hn : Nat.blt d c.n = true) (hx : ev E x = some (.func (.func f) ⟨fs⟩ ⟨cs⟩)) (hc : ∀ args w, (callFunc f args).run c.P w = .ok (.enter f args) w)
    (hv : evs E xs = some vs) (ht : Tri c.P f (fs ++ vs ++ cs) R pre post pan) (hs : Split L pre F)
    (hp : ∀ ch R' L', R.le R' → pan ch R' L' → EJ c (Q (.panic ch)) E R' (L' ++ F))
    (h : ∀ v R' L', R.le R' → post v R' L' → RJ c ops Q rest ((d, v) :: E) R' (L' ++ F)) :
    RJ c ops Q (⟨some d, .call { callee := .value x, args := ⟨xs⟩, argTypes := ts }, ty, p, af, g⟩ :: rest) E R L := by
  intro a w hf hsat
  unfold wpList
  rw [if_pos (hw a hf)]
  refine .inl ?_
  unfold Oper.wp
  rw [run_callf (hf.ev hx) hc (hf.evs hv)]
  simp only [Oper.upon]
  refine (ht _ _ _ (hs.sat hsat)).mono fun e w' ⟨R', L', hR, hw', hpost⟩ => ?_
  cases e with
  | returned v => exact h v R' L' hR hpost _ _ (hf.put hn v) hw'
  | panicked ch => exact hp ch R' L' hR hpost _ _ hf hw'
  | outgrown => exact hpost.elim
end
theorem cj_defer2 {c : Cx} {fn : Func} {σ : World} {R0 : Hp} {F : List Asn} {post : Value → Hp → List Asn → Prop} {pan : List PanicEntry → Hp → List Asn → Prop} {Q : Exit → Act → World → Prop}
    {i j k d : Nat} {l1 l2 : List Oper} {g : FuncId} {cap : List Operand} {ts : Array TypeId} {cs : List Value} {ty ty1 : TypeId} {p p1 : String} {af af1 : Array Edge} {E : Env} {R : Hp} {L : List Asn}
    (hQ : ∀ e a w, EndsD c.P fn σ R0 F post pan e a w → Q e a w) (hn : Nat.blt d c.n = true) (hv : evs E cap = some cs)
    (h : RJ c l1.toArray (Exit.then (fun a w => wpList c.P l2.toArray (tailQ c.P fn (EndR σ R0 F post pan) { target := .fn (.func g) ⟨cs⟩, args := #[] }) l2 a w) (tailQ c.P fn (EndR σ R0 F post pan) { target := .fn (.func g) ⟨cs⟩, args := #[] })) l1 ((d, .func (.func g) ⟨[]⟩ ⟨cs⟩) :: E) R L) :
    CJ c (.seq (.region i #[⟨some d, .makeFunc (.func g) #[] ⟨cap⟩, ty1, p1, af1, none⟩, ⟨none, .defer { callee := .value (.tmp d), args := #[], argTypes := ts }, ty, p, af, none⟩] false) (.seq (.region j l1.toArray false) (.seq (.region k l2.toArray false) .ret))) Q E R L := by
  intro a w hf hs
  refine wp_seq ?_
  refine wp_region_lit (l := [_, _]) ?_
  unfold wpList
  rw [if_pos (wn0 rfl a hf)]
  refine .inl ?_
  have hm := y_makeFunc (c := c) (E := E) (R := R) (L := L) (ty := ty1) (p := p1) (af := af1) (g := none) (d := some d) (fn := .func g) (first := []) (cap := cap) (fs := []) (cs := cs) rfl hv a w hf hs
  have r0 : (execOp a.eval ⟨some d, .makeFunc (.func g) #[] ⟨cap⟩, ty1, p1, af1, none⟩).run c.P w = .ok (.value (.func (.func g) ⟨[]⟩ ⟨cs⟩)) w := by
    have e2 : (Array.mk cap).map a.eval = ⟨cs⟩ := by rw [← hf.evs hv]; simp
    simp [execOp, Instr.makeFunc, e2]
  unfold Oper.wp
  rw [r0]
  simp only [Oper.upon]
  have hf1 := hf.put hn (.func (.func g) ⟨[]⟩ ⟨cs⟩)
  unfold wpList
  rw [if_pos (wn0 rfl _ hf1)]
  refine .inl ?_
  have r : (execOp (a.put (some d) (.func (.func g) ⟨[]⟩ ⟨cs⟩)).eval ⟨none, .defer { callee := .value (.tmp d), args := #[], argTypes := ts }, ty, p, af, none⟩).run c.P w = .ok (.defer { target := .fn (.func g) ⟨cs⟩, args := #[] }) w := by
    have := hf1.ev (x := .tmp d) (v := .func (.func g) ⟨[]⟩ ⟨cs⟩) (by simp [ev, lk])
    simp [execOp, resolve, this, Deferred.ofValue]
  unfold Oper.wp
  rw [r]
  simp only [Oper.upon]
  show (Code.seq (.region j l1.toArray false) (.seq (.region k l2.toArray false) .ret)).wp c.P Q _ w
  refine wp_seq ?_
  refine wp_region_lit ?_
  have hd := hf1.dfs
  generalize a.put (some d) (.func (.func g) ⟨[]⟩ ⟨cs⟩) = a1 at hf1 hd ⊢
  have e1 : (({ a1 with defers := { target := .fn (.func g) ⟨cs⟩, args := #[] } :: a1.defers } : Act).put none undef) = under [{ target := .fn (.func g) ⟨cs⟩, args := #[] }] a1 := by
    simp [Act.put, under, hd]
  rw [e1]
  have key : ∀ (e : Exit) (a' : Act) (w' : World), tailQ c.P fn (EndR σ R0 F post pan) { target := .fn (.func g) ⟨cs⟩, args := #[] } e a' w' → e ≠ .normal → Q e (under [{ target := .fn (.func g) ⟨cs⟩, args := #[] }] a') w' := by
    intro e a' w' hq hne
    cases e with
    | normal => exact absurd rfl hne
    | panic ch =>
      obtain ⟨h1, h2⟩ := hq
      refine hQ _ _ _ ?_
      show Leaves _ _ _ _ (a'.defers ++ _) _ _
      rw [h1]; exact h2
    | ret => exact hq.elim
    | outgrown => exact hq.elim
    | exit id => exact hq.elim
    | goto l => exact hq.elim
  refine wpList_under ?_ l1 a1 w (h a1 w hf1 hs)
  intro e a' w' hq
  cases e with
  | normal =>
    show (Code.seq (.region k l2.toArray false) .ret).wp c.P Q _ w'
    refine wp_seq ?_
    refine wp_region_lit ?_
    refine wpList_under ?_ l2 a' w' hq
    intro e a' w' hq
    cases e with
    | normal =>
      obtain ⟨h1, h2⟩ := hq
      refine wp_ret (hQ _ _ _ ?_)
      show Leaves _ _ _ _ (a'.defers ++ _) _ _
      rw [h1]; exact h2
    | panic ch => exact key _ _ _ hq (by simp)
    | ret => exact hq.elim
    | outgrown => exact hq.elim
    | exit id => exact hq.elim
    | goto l => exact hq.elim
  | panic ch => exact key _ _ _ hq (by simp)
  | ret => exact hq.elim
  | outgrown => exact hq.elim
  | exit id => exact hq.elim
  | goto l => exact hq.elim
theorem leaves_onec {P : Program} {fn : Func} {tmps : Array Value} {RR : Ending → World → Prop} {g : FuncId} {cs : List Value} {u u1 : FrameMode} {w : World} {X : World → Prop}
    (hu : u ≠ .run) (hc : ∀ args w, (callFunc g args).run P w = .ok (.enter g args) w) (h : CallsD P g ⟨cs⟩ u w fun e u' w' => (∃ v, e = .returned v) ∧ settle u' = u1 ∧ X w')
    (k : ∀ w', X w' → Leaves P fn tmps RR [] u1 w') : Leaves P fn tmps RR [{ target := .fn (.func g) ⟨cs⟩, args := #[] }] u w := by
  refine leaves_cons hu (f := g) (args := ⟨cs⟩) (by simp [invoke, hc]) (h.mono fun e u' w' ⟨⟨v, he⟩, h1, h2⟩ => ?_)
  subst he
  simp only
  rw [h1]
  exact k w' h2
end V
end Go.Proofs.YtjdbigplednihaaGreat
set_option linter.unusedSimpArgs false
set_option linter.unusedVariables false
set_option maxRecDepth 100000
namespace Go.Proofs.YtjdbigplednihaaGreat
open Go.RowKit
namespace V
set_option maxHeartbeats 4000000
def othersL (id n : Nat) : List Nat := (List.range n).filter (fun i => i != id)
theorem othersL_succ (id i : Nat) : othersL id (i + 1) = if i = id then othersL id i else othersL id i ++ [i] := by
  unfold othersL
  rw [List.range_succ, List.filter_append]
  by_cases h : i = id
  · subst h; simp
  · simp [h]
theorem others_t {R : Hp} {α : Type} (b : NB) (id n : Nat) (fk : FuncId) (first caps : List Value) (hc : ∀ args w, (callFunc fk args).run Tryz.prog w = .ok (.enter fk args) w) (step : α → Nat → α) (rep : α → Hp → List Asn → Prop)
    (hrep : ∀ a R L, rep a R L → ∃ v x rest, L = ndB b v x :: rest ∧ x.id = id ∧ x.n = n)
    (hn : n ≤ 9) (a : α) (L : List Asn) (hL : rep a R L)
    (hf : ∀ R L i, rep ((othersL id i).foldl step a) R L → i < n → i ≠ id → Tri Tryz.prog fk (first ++ [.int .i64 (i : Int)] ++ caps) R L (fun _ R' L' => rep (step ((othersL id i).foldl step a) i) R' L')) :
    Tri Tryz.prog 34 [.pointer (some ⟨b.x, 0, none⟩), .func (.func fk) ⟨first⟩ ⟨caps⟩] R L (fun _ R' L' => rep ((othersL id n).foldl step a) R' L') := by
  obtain ⟨v, x, rest, rfl, hid, hnn⟩ := hrep a R L hL
  subst hid hnn
  refine tri_of Tryz.func34 rfl Tryz.ntmps34 rfl (fun σ F Q hret hend hpan => ?_)
  try simp only [List.cons_append, List.nil_append]
  refine cj_env (eL 0 rfl (eL 1 rfl eN)) ?_
  unfold ndB ndC
  refine cj_seq (fun K1 hK1 => ?_)
  refine cj_region ?_
  refine rv0 rfl rfl rfl (y_move rfl) ?_
  refine rv0 rfl rfl rfl (y_nilCheck rfl) ?_
  refine rv0 rfl rfl rfl (y_fieldAddr (k := 1) Tryz.underlying81 rfl (n := 1) (by decide) Tryz.sizeOf3 rfl) ?_
  first | refine rv0 rfl rfl rfl (y_load ⟨Tryz.isAgg3, Tryz.sizeOf3⟩ rfl (by (repeat (first|exact zH _|apply zT));done) rfl) ?_ | refine rv0 rfl rfl rfl (y_load_slc ⟨Tryz.isAgg3, Tryz.sizeOf3⟩ rfl (by (repeat (first|exact zH _|apply zT));done) rfl) ?_
  refine rv0 rfl rfl rfl (y_move rfl) ?_
  refine rj_nil ?_
  refine hK1 _ _ _ ?_
  refine cj_env (eL 0 rfl (eL 1 rfl (eL 8 rfl (eL 9 rfl eN)))) ?_
  refine cj_block ?_
  refine cj_env (E' := (fun (x1 : Nat × α × Hp × List Asn) => [(0, .pointer (some ⟨b.x, 0, none⟩)), (1, .func (.func fk) ⟨first⟩ ⟨caps⟩), (8, .int .i64 (x.n : Int)), (9, .int .i64 (x1.1 : Int))]) (0, a, R, ndB b v x :: rest)) (eC rfl (eC rfl (eC rfl (eC rfl eN)))) ?_
  refine cj_sub (M := (fun (x1 : Nat × α × Hp × List Asn) => x1.2.2.2 ++ F) (0, a, R, ndB b v x :: rest)) (by (repeat (first|exact zR _|(apply zP;focus (repeat (first|exact zH _|apply zT)))|apply zD|exact zA _ _))) ?_
  refine cj_loop (fun (x1 : Nat × α × Hp × List Asn) => [(0, .pointer (some ⟨b.x, 0, none⟩)), (1, .func (.func fk) ⟨first⟩ ⟨caps⟩), (8, .int .i64 (x.n : Int)), (9, .int .i64 (x1.1 : Int))]) (fun (x1 : Nat × α × Hp × List Asn) => x1.2.2.1) (fun (x1 : Nat × α × Hp × List Asn) => x1.2.2.2 ++ F) (fun (x1 : Nat × α × Hp × List Asn) => x1.1 ≤ x.n ∧ x1.2.1 = (othersL x.id x1.1).foldl step a ∧ rep x1.2.1 x1.2.2.1 x1.2.2.2 ∧ R.le x1.2.2.1) (fun (x1 : Nat × α × Hp × List Asn) => x.n - x1.1) (0, a, R, ndB b v x :: rest) (⟨by simp, rfl, hL, Hp.le_refl _⟩) ?_
  rintro ⟨i, a2, R2, L2⟩ ⟨hi, ha2, hr2, hR2⟩
  try dsimp only
  dsimp only at hi ha2 hr2 hR2
  obtain ⟨v2, y, rest2, rfl, hid2, hnn2⟩ := hrep a2 R2 L2 hr2
  refine cj_seq (fun K2 hK2 => ?_)
  refine cj_region ?_
  refine rv0 rfl rfl rfl (y_lss rfl rfl) ?_
  refine rj_nil ?_
  refine hK2 _ _ _ ?_
  refine cj_seq (fun K3 hK3 => ?_)
  refine cj_cond rfl (fun hc10 => ?_) (fun hc10 => ?_)
  ·try simp only [dT, dF, nT, nF, tF, fT] at hc10
   refine cj_skip ?_
   refine hK3 _ _ _ ?_
   refine cj_seq (fun K5 hK5 => ?_)
   refine cj_block ?_
   refine cj_seq (fun K6 hK6 => ?_)
   refine cj_region ?_
   have hin : i < x.n := by (try simp at hc10); omega
   refine rv0 rfl rfl rfl (y_move rfl) ?_
   refine rv0 rfl rfl rfl (y_assign rfl) ?_
   refine rj_nil ?_
   refine hK6 _ _ _ ?_
   refine cj_seq (fun K7 hK7 => ?_)
   refine cj_region ?_
   refine rv0 rfl rfl rfl (y_move rfl) ?_
   refine rv0 rfl rfl rfl (y_move rfl) ?_
   refine rv0 rfl rfl rfl (y_nilCheck rfl) ?_
   refine rv0 rfl rfl rfl (y_fieldAddr (k := 0) Tryz.underlying81 rfl (n := 1) (by decide) Tryz.sizeOf3 rfl) ?_
   refine rv0 rfl rfl rfl ((Yld.to (u := .int .i64 (x.id : Int)) (y_load ⟨Tryz.isAgg3, Tryz.sizeOf3⟩ rfl (by (repeat (first|exact zH _|apply zT));done) rfl) (by rw [hid2]))) ?_
   refine rv0 rfl rfl rfl (y_neq rfl rfl) ?_
   refine rj_nil ?_
   refine hK7 _ _ _ ?_
   refine cj_env (eL 0 rfl (eL 1 rfl (eL 4 rfl (eL 8 rfl (eL 9 rfl (eL 17 rfl eN)))))) ?_
   refine cj_cond rfl (fun hc17 => ?_) (fun hc17 => ?_)
   ·have fne : ¬ i = x.id := by intro h; (try simp at hc17); omega
    refine cj_region ?_
    refine rv0 rfl rfl rfl (y_move rfl) ?_
    refine rv0 rfl rfl rfl (y_move rfl) ?_
    refine rj_callf (wn0 rfl) rfl rfl hc rfl (hf R2 _ i (by rw [ha2] at hr2; exact hr2) hin fne) (split_pre _ _) (fun _ _ _ _ h => h.elim) ?_
    rintro r R3 L3 hR3 hr3
    rw [← ha2] at hr3
    refine rj_nil ?_
    refine hK5 _ _ _ ?_
    refine cj_env (eL 0 rfl (eL 1 rfl (eL 8 rfl (eL 9 rfl eN)))) ?_
    refine cj_region ?_
    first | refine rv0 rfl rfl rfl (y_add64 rfl rfl (by (first | omega | (dsimp only; omega) | (simp; done) | (simp; omega)))) ?_ | refine rv0 rfl rfl rfl (y_add rfl rfl) ?_
    refine rv0 rfl rfl rfl (y_move rfl) ?_
    refine rj_nil ?_
    refine ej_on (q' := roundK _ _ _ _ _ _ _) rfl ?_
    refine ej_round ((i + 1, step a2 i, R3, L3)) (⟨by dsimp only; omega, by dsimp only; rw [othersL_succ, if_neg fne, List.foldl_append, ← ha2]; rfl, hr3, Hp.le_trans hR2 hR3⟩) (by dsimp only; omega) (eC rfl (eC rfl (eC rfl (eC rfl eN)))) rfl (by (repeat (first|exact zR _|(apply zP;focus (repeat (first|exact zH _|apply zT)))|apply zD|exact zA _ _)))
   ·have feq : i = x.id := by (try simp at hc17); omega
    refine cj_skip ?_
    refine hK5 _ _ _ ?_
    refine cj_region ?_
    first | refine rv0 rfl rfl rfl (y_add64 rfl rfl (by (first | omega | (dsimp only; omega) | (simp; done) | (simp; omega)))) ?_ | refine rv0 rfl rfl rfl (y_add rfl rfl) ?_
    refine rv0 rfl rfl rfl (y_move rfl) ?_
    refine rj_nil ?_
    refine ej_on (q' := roundK _ _ _ _ _ _ _) rfl ?_
    refine ej_round ((i + 1, a2, R2, ndB b v2 y :: rest2)) (⟨by dsimp only; omega, by dsimp only; rw [othersL_succ, if_pos feq]; exact ha2, hr2, hR2⟩) (by dsimp only; omega) (eC rfl (eC rfl (eC rfl (eC rfl eN)))) rfl (by (repeat (first|exact zR _|(apply zP;focus (repeat (first|exact zH _|apply zT)))|apply zD|exact zA _ _)))
  ·try simp only [dT, dF, nT, nF, tF, fT] at hc10
   refine cj_exit ?_
   refine hend _ _ _ ?_
   obtain rfl : i = x.n := by (try simp at hc10); omega
   apply ej_end Tryz.results34 .nil _ (ndB b v2 y :: rest2) hR2 rfl
   case hp => rw [ha2] at hr2; exact hr2
   case hS => exact .refl _
theorem othersL_le (id : Nat) : ∀ i, (othersL id i).length ≤ i
  | 0 => by simp [othersL]
  | i + 1 => by
    have := othersL_le id i
    rw [othersL_succ]
    split
    · omega
    · simp; omega
def ND.stamp (x : ND) (m : Msg) : Msg := { m with frm := x.id, term := x.g.term }
def ND.sends (x : ND) (l : List Msg) : ND := { x with out := x.out ++ l.map x.stamp }
theorem feeds_eq (x : ND) (l : List Nat) : l.foldl ND.feed x = x.sends (l.map x.feedMsg) := by
  have : ∀ (l : List Nat) (o : List Msg), l.foldl ND.feed { x with out := o } = { x with out := o ++ (l.map x.feedMsg).map x.stamp } := by
    intro l
    induction l with
    | nil => intro o; simp
    | cons i l ih =>
      intro o
      rw [List.foldl_cons, show ND.feed { x with out := o } i = { x with out := o ++ [x.stamp (x.feedMsg i)] } from rfl, ih]
      simp
  exact this l x.out
theorem asks_eq (x : ND) (l : List Nat) : l.foldl ND.ask x = x.sends (l.map x.askMsg) := by
  have : ∀ (l : List Nat) (o : List Msg), l.foldl ND.ask { x with out := o } = { x with out := o ++ (l.map x.askMsg).map x.stamp } := by
    intro l
    induction l with
    | nil => intro o; simp
    | cons i l ih =>
      intro o
      rw [List.foldl_cons, show ND.ask { x with out := o } i = { x with out := o ++ [x.stamp (x.askMsg i)] } from rfl, ih]
      simp
  exact this l x.out
theorem NIn.sends {k : Nat} {x : ND} (h : NIn k x) (l : List Msg) (hl : l.length ≤ 20) : NIn (k + 1) (x.sends l) := by
  have h1 := h.le (show k ≤ k + 1 by omega)
  exact ⟨h1.idn, h1.term, h1.vote, h1.base, h1.baseT, h1.state, h1.alln, h1.all, h1.commit, h1.patience, h1.peers, h1.peer, h1.votes, by have := h.out; unfold ND.sends; simp; omega⟩
def NV.outs (v : NV) (x : ND) (R : Hp) (y : ND) (L : List Asn) (b : NB) : Prop :=
  ∃ vo css, Els msgE R y.out css ∧ vo.oneCell' = true ∧ L = [ndB b (v.sent vo css) y, lgN b (v.sent vo css) y, prA (v.sent vo css) y, outA (v.sent vo css) y]
theorem NOk.sent {R R' : Hp} {v : NV} {x : ND} (h : NOk R v x) (hR : R.le R') {y : ND} (hy : y.g = x.g ∧ y.role = x.role) {vo : Value} {css : List (List Value)} (ho : Els msgE R' y.out css) (hvo : vo.oneCell' = true) : NOk R' (v.sent vo css) y :=
  ⟨by rw [hy.1]; exact h.va.mono hR, ho, h.vm, h.vp, hvo, by rw [hy.2]; exact h.map⟩
theorem feedAll_t {R : Hp} (b : NB) (v : NV) (x : ND) (k : Nat) (hk : k ≤ 80) (hx : NIn k x) (hv : NOk R v x) (hp : x.peers.length = x.n) :
    Tri Tryz.prog 34 [.pointer (some ⟨b.x, 0, none⟩), .func (.func 35) ⟨[.pointer (some ⟨b.x, 0, none⟩)]⟩ ⟨[]⟩] R [ndB b v x, lgN b v x, prA v x, outA v x]
      (fun r R' L' => v.outs x R' x.feedAll L' b) := by
  have hidn := hx.idn
  have := others_t (R := R) b x.id x.n 35 [.pointer (some ⟨b.x, 0, none⟩)] [] Tryz.call35 ND.feed (fun y R' L' => R.le R' ∧ y.id = x.id ∧ y.n = x.n ∧ v.outs x R' y L' b)
    (fun y R' L' ⟨_, h1, h2, vo, css, _, _, h3⟩ => ⟨v.sent vo css, y, _, h3, h1, h2⟩) hidn.2 x _ ⟨Hp.le_refl R, rfl, rfl, v.vo, v.css, hv.out, hv.vo, rfl⟩
    (fun R2 L2 i ⟨hR2, h1, h2, vo, css, hels, hvo, h3⟩ hin hne => by
      subst h3
      rw [feeds_eq] at *
      have hsend := hx.sends ((othersL x.id i).map x.feedMsg) (by have := othersL_le x.id i; simp; omega)
      have hft := feed_t (R := R2) b (v.sent vo css) (x.sends ((othersL x.id i).map x.feedMsg)) (k + 1) (by omega) hsend (hv.sent (y := x.sends ((othersL x.id i).map x.feedMsg)) hR2 ⟨rfl, rfl⟩ hels hvo) i (by show i < x.peers.length; omega)
      refine Tri.mono hft (fun r R3 L3 hR3 ⟨vo3, css3, he3, ho3, hL3⟩ => ⟨Hp.le_trans hR2 hR3, rfl, rfl, vo3, css3, he3, ho3, hL3⟩) (fun _ _ _ _ h => h))
  exact Tri.mono this (fun r R' L' hR h => h.2.2.2) (fun _ _ _ _ h => h)
end V
end Go.Proofs.YtjdbigplednihaaGreat
set_option linter.unusedSimpArgs false
set_option linter.unusedVariables false
set_option maxRecDepth 100000
namespace Go.Proofs.YtjdbigplednihaaGreat
open Go.RowKit
namespace V
set_option maxHeartbeats 4000000
theorem LG.last_b {g : LG} (hg : g.ok) : 0 ≤ g.last ∧ g.last ≤ 1000000000100000 := by
  have h1 := hg.base
  have h2 := hg.alln
  unfold LG.last; omega
theorem ask_t {R : Hp} (b : NB) (v : NV) (x : ND) (k : Nat) (hk : k ≤ 90) (hx : NIn k x) (hv : NOk R v x) (i bX bL : Nat) :
    Tri Tryz.prog 65 [.int .i64 (i : Int), .pointer (some ⟨bX, 0, none⟩), .pointer (some ⟨bL, 0, none⟩)] R [ndB b v x, lgN b v x, outA v x, blk bX [.pointer (some ⟨b.x, 0, none⟩)] 30, blk bL [.int .u64 x.g.last] 31]
      (fun r R' L' => ∃ vo css, Els msgE R' (x.ask i).out css ∧ vo.oneCell' = true ∧ L' = [ndB b (v.sent vo css) (x.ask i), lgN b (v.sent vo css) (x.ask i), outA (v.sent vo css) (x.ask i), blk bX [.pointer (some ⟨b.x, 0, none⟩)] 30, blk bL [.int .u64 x.g.last] 31]) := by
  have hg := hx.g (by omega)
  have hlb := LG.last_b hg
  have ho := hx.out
  have hva := hv.va
  refine tri_of Tryz.func65 rfl Tryz.ntmps65 rfl (fun σ F Q hret hend hpan => ?_)
  try simp only [List.cons_append, List.nil_append]
  refine cj_env (eL 0 rfl (eL 1 rfl (eL 2 rfl eN))) ?_
  refine cj_mixg (L := [blk bX [.pointer (some ⟨b.x, 0, none⟩)] 30, blk bL [.int .u64 x.g.last] 31, ndB b v x, lgN b v x]) [0, 1, 2, 3, 4, 5, 6] [] [7] _ (by (repeat (first|exact zR _|(apply zP;focus (repeat (first|exact zH _|apply zT)))|apply zD|exact zA _ _))) (by kernel_rfl) (by kernel_rfl) (by kernel_rfl) rfl ?_
  first | refine fj_val rfl rfl rfl (wn0 rfl) (fun R1 hR1 G => (y_load ⟨Tryz.isAgg30, Tryz.sizeOf30⟩ rfl (by (repeat (first|exact zH _|apply zT));done) rfl)) ?_ | refine fj_val rfl rfl rfl (wn0 rfl) (fun R1 hR1 G => (y_load_slc ⟨Tryz.isAgg30, Tryz.sizeOf30⟩ rfl (by (repeat (first|exact zH _|apply zT));done) rfl)) ?_
  refine fj_val rfl rfl rfl (wn0 rfl) (fun R1 hR1 G => (y_move rfl)) ?_
  first | refine fj_val rfl rfl rfl (wn0 rfl) (fun R1 hR1 G => (y_load ⟨Tryz.isAgg31, Tryz.sizeOf31⟩ rfl (by (repeat (first|exact zH _|apply zT));done) rfl)) ?_ | refine fj_val rfl rfl rfl (wn0 rfl) (fun R1 hR1 G => (y_load_slc ⟨Tryz.isAgg31, Tryz.sizeOf31⟩ rfl (by (repeat (first|exact zH _|apply zT));done) rfl)) ?_
  first | refine fj_val rfl rfl rfl (wn0 rfl) (fun R1 hR1 G => (y_load ⟨Tryz.isAgg30, Tryz.sizeOf30⟩ rfl (by (repeat (first|exact zH _|apply zT));done) rfl)) ?_ | refine fj_val rfl rfl rfl (wn0 rfl) (fun R1 hR1 G => (y_load_slc ⟨Tryz.isAgg30, Tryz.sizeOf30⟩ rfl (by (repeat (first|exact zH _|apply zT));done) rfl)) ?_
  first | refine fj_val rfl rfl rfl (wn0 rfl) (fun R1 hR1 G => (y_load ⟨Tryz.isAgg31, Tryz.sizeOf31⟩ rfl (by (repeat (first|exact zH _|apply zT));done) rfl)) ?_ | refine fj_val rfl rfl rfl (wn0 rfl) (fun R1 hR1 G => (y_load_slc ⟨Tryz.isAgg31, Tryz.sizeOf31⟩ rfl (by (repeat (first|exact zH _|apply zT));done) rfl)) ?_
  refine fj_val rfl rfl rfl (wn0 rfl) (fun R1 hR1 G => (y_call Tryz.call63 rfl (ndTermAt_q b v x hg (hva.mono hR1) x.g.last (by unfold u64B; omega)) (by (repeat (first|exact zN _|(apply zS;focus (repeat (first|exact zH _|apply zT)))))))) ?_
  refine fj_val rfl rfl rfl (wn0 rfl) (fun R1 hR1 G => (y_build (cells := [_, _, _, _, _, _, _, _, _, _]) [(0, 1), (1, 1), (2, 1), (3, 1), (4, 1), (5, 1), (6, 1), (7, 1), (8, 1), (9, 1)] Tryz.underlying48 Tryz.zeroValue48 (fun _ => rfl) rfl rfl)) ?_
  refine fj_nil ?_
  refine xj_nil ?_
  try simp only [List.cons_append, List.nil_append, List.append_nil]
  refine rj_call (wn0 rfl) rfl Tryz.call62 rfl (send_t b v x (x.askMsg i) (.slice none 0 0) hv.out hv.vo (by omega) FrX.nil) (by (repeat (first|exact zN _|(apply zS;focus (repeat (first|exact zH _|apply zT)))))) (fun _ _ _ _ h => h.elim) ?_
  rintro r R2 L' hR2 ⟨vo, css, hels, hvo2, rfl⟩
  try simp only [List.cons_append, List.nil_append]
  refine rj_nil ?_
  refine hend _ _ _ ?_
  apply ej_end Tryz.results65 .nil _ [ndB b (v.sent vo css) (x.ask i), lgN b (v.sent vo css) (x.ask i), outA (v.sent vo css) (x.ask i), blk bX [.pointer (some ⟨b.x, 0, none⟩)] 30, blk bL [.int .u64 x.g.last] 31] (by first | exact hR2 | exact Hp.le_trans ‹_› hR2) rfl
  case hp => exact ⟨vo, css, hels, hvo2, rfl⟩
  case hS => (repeat (first|exact zR _|(apply zP;focus (repeat (first|exact zH _|apply zT)))|apply zD|exact zA _ _))
theorem askAll_t {R : Hp} (b : NB) (v : NV) (x : ND) (k : Nat) (hk : k ≤ 80) (hx : NIn k x) (hv : NOk R v x) (bX bL : Nat) :
    Tri Tryz.prog 34 [.pointer (some ⟨b.x, 0, none⟩), .func (.func 65) ⟨[]⟩ ⟨[.pointer (some ⟨bX, 0, none⟩), .pointer (some ⟨bL, 0, none⟩)]⟩] R [ndB b v x, lgN b v x, outA v x, blk bX [.pointer (some ⟨b.x, 0, none⟩)] 30, blk bL [.int .u64 x.g.last] 31]
      (fun r R' L' => ∃ vo css, Els msgE R' x.askAll.out css ∧ vo.oneCell' = true ∧ L' = [ndB b (v.sent vo css) x.askAll, lgN b (v.sent vo css) x.askAll, outA (v.sent vo css) x.askAll, blk bX [.pointer (some ⟨b.x, 0, none⟩)] 30, blk bL [.int .u64 x.g.last] 31]) := by
  have hidn := hx.idn
  have := others_t (R := R) b x.id x.n 65 [] [.pointer (some ⟨bX, 0, none⟩), .pointer (some ⟨bL, 0, none⟩)] Tryz.call65 ND.ask (fun y R' L' => R.le R' ∧ y.id = x.id ∧ y.n = x.n ∧ ∃ vo css, Els msgE R' y.out css ∧ vo.oneCell' = true ∧ L' = [ndB b (v.sent vo css) y, lgN b (v.sent vo css) y, outA (v.sent vo css) y, blk bX [.pointer (some ⟨b.x, 0, none⟩)] 30, blk bL [.int .u64 x.g.last] 31])
    (fun y R' L' ⟨_, h1, h2, vo, css, _, _, h3⟩ => ⟨v.sent vo css, y, _, h3, h1, h2⟩) hidn.2 x _ ⟨Hp.le_refl R, rfl, rfl, v.vo, v.css, hv.out, hv.vo, rfl⟩
    (fun R2 L2 i ⟨hR2, h1, h2, vo, css, hels, hvo, h3⟩ hin hne => by
      subst h3
      rw [asks_eq] at *
      have hsend := hx.sends ((othersL x.id i).map x.askMsg) (by have := othersL_le x.id i; simp; omega)
      have hft := ask_t (R := R2) b (v.sent vo css) (x.sends ((othersL x.id i).map x.askMsg)) (k + 1) (by omega) hsend (hv.sent (y := x.sends ((othersL x.id i).map x.askMsg)) hR2 ⟨rfl, rfl⟩ hels hvo) i bX bL
      refine Tri.mono hft (fun r R3 L3 hR3 ⟨vo3, css3, he3, ho3, hL3⟩ => ⟨Hp.le_trans hR2 hR3, rfl, rfl, vo3, css3, he3, ho3, hL3⟩) (fun _ _ _ _ h => h))
  exact Tri.mono this (fun r R' L' hR h => h.2.2.2) (fun _ _ _ _ h => h)
theorem count1_t {R : Hp} (b : NB) (v : NV) (x : ND) (l : List Int) (vr : Value) (hvr : vr.oneCell' = true) (hl : l.length ≤ 100) (i : Nat) (hi : i < x.peers.length) (hp : x.peers.length ≤ 9) (bX bR : Nat) :
    Tri Tryz.prog 101 [.int .i64 (i : Int), .pointer (some ⟨bR, 0, none⟩), .pointer (some ⟨bX, 0, none⟩)] R [ndB b v x, prA v x, blk bX [.pointer (some ⟨b.x, 0, none⟩)] 30, blk bR [vr] 35, slc 31 1 vr l.length (u64sV l)]
      (fun r R' L' => ∃ vr', vr'.oneCell' = true ∧ L' = [ndB b v x, prA v x, blk bX [.pointer (some ⟨b.x, 0, none⟩)] 30, blk bR [vr'] 35, slc 31 1 vr' (l ++ [x.mat i]).length (u64sV (l ++ [x.mat i]))]) := by
  have hnx : nth (pairsV x.peers) (((i : Nat) : Int).toNat * 2 + 1) = some (.int .u64 (x.mat i)) := (pair_nth x.peers i _ rfl hi).2
  have hul := u64s_len l
  refine tri_of Tryz.func101 rfl Tryz.ntmps101 rfl (fun σ F Q hret hend hpan => ?_)
  try simp only [List.cons_append, List.nil_append]
  refine cj_env (eL 0 rfl (eL 1 rfl (eL 2 rfl eN))) ?_
  refine cj_mixg (L := [blk bX [.pointer (some ⟨b.x, 0, none⟩)] 30, blk bR [vr] 35, ndB b v x, prA v x]) [0, 1, 2, 3, 4, 5, 6, 7, 8] [9] [10, 11] _ (by (repeat (first|exact zR _|(apply zP;focus (repeat (first|exact zH _|apply zT)))|apply zD|exact zA _ _))) (by kernel_rfl) (by kernel_rfl) (by kernel_rfl) rfl ?_
  first | refine fj_val rfl rfl rfl (wn0 rfl) (fun R1 hR1 G => (y_load ⟨Tryz.isAgg35, Tryz.sizeOf35⟩ rfl (by (repeat (first|exact zH _|apply zT));done) rfl)) ?_ | refine fj_val rfl rfl rfl (wn0 rfl) (fun R1 hR1 G => (y_load_slc ⟨Tryz.isAgg35, Tryz.sizeOf35⟩ rfl (by (repeat (first|exact zH _|apply zT));done) rfl)) ?_
  first | refine fj_val rfl rfl rfl (wn0 rfl) (fun R1 hR1 G => (y_load ⟨Tryz.isAgg30, Tryz.sizeOf30⟩ rfl (by (repeat (first|exact zH _|apply zT));done) rfl)) ?_ | refine fj_val rfl rfl rfl (wn0 rfl) (fun R1 hR1 G => (y_load_slc ⟨Tryz.isAgg30, Tryz.sizeOf30⟩ rfl (by (repeat (first|exact zH _|apply zT));done) rfl)) ?_
  refine fj_val rfl rfl rfl (wn0 rfl) (fun R1 hR1 G => (y_nilCheck rfl)) ?_
  refine fj_val rfl rfl rfl (wn0 rfl) (fun R1 hR1 G => (y_fieldAddr (k := 8) Tryz.underlying81 rfl (n := 1) (by decide) Tryz.sizeOf79 rfl)) ?_
  first | refine fj_val rfl rfl rfl (wn0 rfl) (fun R1 hR1 G => (y_load ⟨Tryz.isAgg79, Tryz.sizeOf79⟩ rfl (by (repeat (first|exact zH _|apply zT));done) rfl)) ?_ | refine fj_val rfl rfl rfl (wn0 rfl) (fun R1 hR1 G => (y_load_slc ⟨Tryz.isAgg79, Tryz.sizeOf79⟩ rfl (by (repeat (first|exact zH _|apply zT));done) rfl)) ?_
  refine fj_val rfl rfl rfl (wn0 rfl) (fun R1 hR1 G => (y_move rfl)) ?_
  first | refine fj_val rfl rfl rfl (wn0 rfl) (fun R1 hR1 G => (y_indexAddr Tryz.underlying79 Tryz.sizeOf116 rfl rfl (by (first | omega | (dsimp only; omega) | (simp; done) | (simp; omega))))) ?_ | refine fj_val rfl rfl rfl (wn0 rfl) (fun R1 hR1 G => (y_index_slc Tryz.underlying79 Tryz.sizeOf116 rfl rfl (by (repeat (first|exact zH _|apply zT));done) (by (first | omega | (dsimp only; omega) | (simp; done) | (simp; omega))))) ?_
  refine fj_val rfl rfl rfl (wn0 rfl) (fun R1 hR1 G => (y_fieldAddr_slc (k := 1) Tryz.underlying116 rfl (m := 1) (by decide) Tryz.sizeOf31 rfl (by (repeat (first|exact zH _|apply zT));done) (by omega))) ?_
  refine fj_val rfl rfl rfl (wn0 rfl) (fun R1 hR1 G => (y_load_slc ⟨Tryz.isAgg31, Tryz.sizeOf31⟩ rfl (by (repeat (first|exact zH _|apply zT));done) hnx)) ?_
  refine fj_nil ?_
  refine xj_rj rfl ?_
  try simp only [List.cons_append, List.nil_append, List.append_nil]
  refine rj_buildSlice (sz := 1) (wn0 rfl) rfl Tryz.underlying35 Tryz.sizeOf31 Tryz.zeroValue31 rfl rfl rfl (by decide) (by decide) (fun b13 => ?_)
  refine rj_xk (by (first | exact Hp.le_refl _ | assumption | exact Hp.le_trans ‹_› ‹_›)) (by (repeat (first|exact zR _|(apply zP;focus (repeat (first|exact zH _|apply zT)))|apply zD|exact zA _ _))) ?_
  refine xj_nil ?_
  try simp only [List.cons_append, List.nil_append, List.append_nil]
  refine rj_append (sz := 1) (by_ := 8) ⟨Tryz.underlying35, _, _, rfl, rfl, rfl, rfl, rfl⟩ (wn0 rfl) rfl rfl rfl (by (repeat (first|exact zH _|apply zT));done) (src_slc (xs := [.int .u64 (x.mat i)]) Tryz.underlying35 (by (repeat (first|exact zH _|apply zT));done) (by simp [Value.oneCell'])) rfl (by (first | omega | (dsimp only; omega) | (simp; done) | (simp; omega))) (by simp only [maxLen]; omega) (fun v14 ho14 hh14 => ?_)
  rw [show u64sV l ++ [Value.int .u64 (x.mat i)] = u64sV (l ++ [x.mat i]) by simp [u64sV], show l.length + 1 = (l ++ [x.mat i]).length by simp]
  refine rj_store ⟨Tryz.isAgg35, Tryz.sizeOf35⟩ (wn0 rfl) rfl rfl (by (first | rfl | assumption | (apply cutV_one; assumption))) (by (repeat (first|exact zH _|apply zT));done) rfl rfl ?_
  refine rj_nil ?_
  refine hend _ _ _ ?_
  apply ej_end Tryz.results101 .nil _ [ndB b v x, prA v x, blk bX [.pointer (some ⟨b.x, 0, none⟩)] 30, blk bR [v14] 35, slc 31 1 v14 (l ++ [x.mat i]).length (u64sV (l ++ [x.mat i]))] (by first | exact Hp.le_refl _ | assumption) rfl
  case hp => exact ⟨v14, by assumption, rfl⟩
  case hS => (repeat (first|exact zR _|(apply zP;focus (repeat (first|exact zH _|apply zT)))|apply zD|exact zA _ _))
theorem fold_snoc {α β : Type} (f : α → β) : ∀ (l : List α) (a : List β), l.foldl (fun l i => l ++ [f i]) a = a ++ l.map f
  | [], a => by simp
  | i :: l, a => by rw [List.foldl_cons, fold_snoc f l]; simp
theorem othersL_len {id n : Nat} (h : id < n) : (othersL id n).length + 1 = n := by
  induction n with
  | zero => omega
  | succ n ih =>
    rw [othersL_succ]
    by_cases hn : n = id
    · subst hn
      rw [if_pos rfl]
      unfold othersL
      rw [List.filter_eq_self.2 (fun a ha => by simp at ha ⊢; omega)]
      simp
    · rw [if_neg hn]; simp; exact ih (by omega)
theorem reach_len {x : ND} (h : x.id < x.n) : x.reach.length = x.n := by
  unfold ND.reach
  rw [List.length_cons, List.length_map]
  exact othersL_len h
theorem srt_pair {l : List Int} (h : Srt l l.length) : l.Pairwise (fun a b => decide (a ≤ b) = true) := by
  rw [List.pairwise_iff_getElem]
  intro i j hi hj hij
  have := h i j hij hj
  simpa [List.getD_eq_getElem?_getD, List.getElem?_eq_getElem hi, List.getElem?_eq_getElem hj] using this
theorem mid_eq {x : ND} {l : List Int} (hp : l.Perm x.reach) (hs : Srt l l.length) : l.getD ((x.n - 1) / 2) 0 = x.mid := by
  have h1 := List.mergeSort_perm x.reach (fun a b => decide (a ≤ b))
  have h2 := List.pairwise_mergeSort (le := fun (a b : Int) => decide (a ≤ b)) (fun a b c h1 h2 => by simp at *; omega) (fun a b => by simp; omega) x.reach
  have : l = x.reach.mergeSort (fun a b => decide (a ≤ b)) := List.Perm.eq_of_pairwise (le := fun (a b : Int) => decide (a ≤ b) = true) (fun a b _ _ h1 h2 => by simp at *; omega) (srt_pair hs) h2 (hp.trans h1.symm)
  unfold ND.mid
  rw [this]
theorem mid_mem {x : ND} (h : x.id < x.n) : x.mid ∈ x.reach := by
  have h1 := List.mergeSort_perm x.reach (fun a b => decide (a ≤ b))
  have h2 := h1.length_eq
  rw [reach_len h] at h2
  unfold ND.mid
  have h3 : (x.n - 1) / 2 < (x.reach.mergeSort (fun a b => decide (a ≤ b))).length := by rw [h2]; omega
  rw [List.getD_eq_getElem?_getD, List.getElem?_eq_getElem h3]
  exact h1.subset (List.getElem_mem h3)
theorem mat_b {k : Nat} {x : ND} (hx : NIn k x) (i : Nat) : 0 ≤ x.mat i ∧ x.mat i ≤ 150000000000000 := by
  unfold ND.mat
  by_cases hi : i < x.peers.length
  · have : x.peers.getD i (0, 0) ∈ x.peers := by rw [List.getD_eq_getElem?_getD, List.getElem?_eq_getElem hi]; simp
    exact (hx.peer _ this).2
  · rw [List.getD_eq_getElem?_getD, List.getElem?_eq_none (by omega)]; decide
theorem mid_b {k : Nat} (hk : k ≤ 100) {x : ND} (hx : NIn k x) : 0 ≤ x.mid ∧ x.mid ≤ 150000000000000 := by
  have h := mid_mem hx.idn.1
  unfold ND.reach at h
  rcases List.mem_cons.1 h with h | h
  · rw [h]
    have h1 := hx.base
    have h2 := hx.alln
    unfold LG.last; omega
  · obtain ⟨i, _, hi⟩ := List.mem_map.1 h
    rw [← hi]; exact mat_b hx i
theorem countAll_t {R : Hp} (b : NB) (v : NV) (x : ND) (vr : Value) (hvr : vr.oneCell' = true) (k : Nat) (hx : NIn k x) (hp : x.peers.length = x.n) (bX bR : Nat) :
    Tri Tryz.prog 34 [.pointer (some ⟨b.x, 0, none⟩), .func (.func 101) ⟨[]⟩ ⟨[.pointer (some ⟨bR, 0, none⟩), .pointer (some ⟨bX, 0, none⟩)]⟩] R [ndB b v x, prA v x, blk bX [.pointer (some ⟨b.x, 0, none⟩)] 30, blk bR [vr] 35, slc 31 1 vr 1 (u64sV [x.g.last])]
      (fun r R' L' => ∃ vr', vr'.oneCell' = true ∧ L' = [ndB b v x, prA v x, blk bX [.pointer (some ⟨b.x, 0, none⟩)] 30, blk bR [vr'] 35, slc 31 1 vr' x.reach.length (u64sV x.reach)]) := by
  have hidn := hx.idn
  have := others_t (R := R) b x.id x.n 101 [] [.pointer (some ⟨bR, 0, none⟩), .pointer (some ⟨bX, 0, none⟩)] Tryz.call101 (fun l i => l ++ [x.mat i]) (fun l R' L' => ∃ vr', vr'.oneCell' = true ∧ L' = [ndB b v x, prA v x, blk bX [.pointer (some ⟨b.x, 0, none⟩)] 30, blk bR [vr'] 35, slc 31 1 vr' l.length (u64sV l)])
    (fun y R' L' ⟨vr', _, h3⟩ => ⟨v, x, _, h3, rfl, rfl⟩) hidn.2 [x.g.last] _ ⟨vr, hvr, rfl⟩
    (fun R2 L2 i ⟨vr', hvr', h3⟩ hin hne => by
      subst h3
      rw [fold_snoc] at *
      have hlen : ([x.g.last] ++ (othersL x.id i).map x.mat).length ≤ 100 := by have := othersL_le x.id i; simp; omega
      exact count1_t (R := R2) b v x _ vr' hvr' hlen i (by omega) (by omega) bX bR)
  rw [fold_snoc] at this
  exact this
theorem count_t {R : Hp} (b : NB) (v : NV) (x : ND) (k : Nat) (hk : k ≤ 90) (hx : NIn k x) (hva : FrX entE R x.g.all v.va) (hvp : v.vp.oneCell' = true) (hp : x.peers.length = x.n) :
    Tri Tryz.prog 71 [.pointer (some ⟨b.x, 0, none⟩)] R [ndB b v x, lgN b v x, prA v x] (fun r R' L' => L' = [ndB b v x.count, lgN b v x.count, prA v x.count]) := by
  have hg := hx.g (by omega)
  have hidn := hx.idn
  have hrl := reach_len hidn.1
  have hmb := mid_b (by omega) hx
  refine tri_of Tryz.func71 rfl Tryz.ntmps71 rfl (fun σ F Q hret hend hpan => ?_)
  try simp only [List.cons_append, List.nil_append]
  refine cj_env (eL 0 rfl eN) ?_
  refine cj_seq (fun K1 hK1 => ?_)
  refine cj_region ?_
  refine rj_box (wn0 rfl) rfl rfl rfl (fun bX => ?_)
  refine rj_nil ?_
  refine hK1 _ _ _ ?_
  refine cj_seq (fun K2 hK2 => ?_)
  refine cj_region ?_
  first | refine rv0 rfl rfl rfl (y_load ⟨Tryz.isAgg30, Tryz.sizeOf30⟩ rfl (by (repeat (first|exact zH _|apply zT));done) rfl) ?_ | refine rv0 rfl rfl rfl (y_load_slc ⟨Tryz.isAgg30, Tryz.sizeOf30⟩ rfl (by (repeat (first|exact zH _|apply zT));done) rfl) ?_
  refine rv0 rfl rfl rfl (y_nilCheck rfl) ?_
  refine rv0 rfl rfl rfl (y_fieldAddr (k := 2) Tryz.underlying81 rfl (n := 1) (by decide) Tryz.sizeOf44 rfl) ?_
  first | refine rv0 rfl rfl rfl (y_load ⟨Tryz.isAgg44, Tryz.sizeOf44⟩ rfl (by (repeat (first|exact zH _|apply zT));done) rfl) ?_ | refine rv0 rfl rfl rfl (y_load_slc ⟨Tryz.isAgg44, Tryz.sizeOf44⟩ rfl (by (repeat (first|exact zH _|apply zT));done) rfl) ?_
  refine rv0 rfl rfl rfl (y_call Tryz.call19 rfl (lgLast_q b.l (some ⟨b.d, 0, none⟩) v.va x.g hg hva) (by (repeat (first|exact zN _|(apply zS;focus (repeat (first|exact zH _|apply zT))))))) ?_
  refine rj_buildSlice (sz := 1) (wn0 rfl) rfl Tryz.underlying35 Tryz.sizeOf31 Tryz.zeroValue31 rfl rfl rfl (by decide) (by decide) (fun b9 => ?_)
  refine rj_alloc (wn0 rfl) rfl Tryz.zeroValue35 rfl (fun bR => ?_)
  refine rj_store ⟨Tryz.isAgg35, Tryz.sizeOf35⟩ (wn0 rfl) rfl rfl (by (first | rfl | assumption | (apply cutV_one; assumption))) (by (repeat (first|exact zH _|apply zT));done) rfl rfl ?_
  refine rj_nil ?_
  refine hK2 _ _ _ ?_
  refine cj_env (eL 1 rfl (eL 2 rfl eN)) ?_
  refine cj_seq (fun K3 hK3 => ?_)
  refine cj_region ?_
  first | refine rv0 rfl rfl rfl (y_load ⟨Tryz.isAgg30, Tryz.sizeOf30⟩ rfl (by (repeat (first|exact zH _|apply zT));done) rfl) ?_ | refine rv0 rfl rfl rfl (y_load_slc ⟨Tryz.isAgg30, Tryz.sizeOf30⟩ rfl (by (repeat (first|exact zH _|apply zT));done) rfl) ?_
  refine rv0 rfl rfl rfl (y_makeFunc rfl rfl) ?_
  refine rj_call (wn0 rfl) rfl Tryz.call34 rfl (countAll_t b v x (.slice (some ⟨b9, 0, none⟩) 1 1) rfl k hx hp bX bR) (by (repeat (first|exact zN _|(apply zS;focus (repeat (first|exact zH _|apply zT)))))) (fun _ _ _ _ h => h.elim) ?_
  rintro r R2 L' hR2 ⟨vr, hvr, rfl⟩
  try simp only [List.cons_append, List.nil_append]
  refine rj_nil ?_
  refine hK3 _ _ _ ?_
  refine cj_env (eL 1 rfl (eL 2 rfl eN)) ?_
  refine cj_seq (fun K4 hK4 => ?_)
  refine cj_region ?_
  first | refine rv0 rfl rfl rfl (y_load ⟨Tryz.isAgg35, Tryz.sizeOf35⟩ rfl (by (repeat (first|exact zH _|apply zT));done) rfl) ?_ | refine rv0 rfl rfl rfl (y_load_slc ⟨Tryz.isAgg35, Tryz.sizeOf35⟩ rfl (by (repeat (first|exact zH _|apply zT));done) rfl) ?_
  refine rj_call (wn0 rfl) rfl Tryz.call102 rfl (sort_t vr x.reach hvr (by omega)) (by (repeat (first|exact zN _|(apply zS;focus (repeat (first|exact zH _|apply zT)))))) (fun _ _ _ _ h => h.elim) ?_
  rintro r R3 L' hR3 ⟨l2, hpm, hsrt, rfl⟩
  have hl2 := hpm.length_eq
  have hva3 := hva.mono (Hp.le_trans hR2 hR3)
  try simp only [List.cons_append, List.nil_append]
  refine rj_nil ?_
  refine hK4 _ _ _ ?_
  refine cj_seq (fun K5 hK5 => ?_)
  refine cj_draw (by kernel_rfl) (by kernel_rfl) ?_
  first | refine qj_val (wn0 rfl) rfl rfl (y_load ⟨Tryz.isAgg35, Tryz.sizeOf35⟩ rfl (by (repeat (first|exact zH _|apply zT));done) rfl) ?_ | refine qj_val (wn0 rfl) rfl rfl (y_load_slc ⟨Tryz.isAgg35, Tryz.sizeOf35⟩ rfl (by (repeat (first|exact zH _|apply zT));done) rfl) ?_
  first | refine qj_val (wn0 rfl) rfl rfl (y_load ⟨Tryz.isAgg30, Tryz.sizeOf30⟩ rfl (by (repeat (first|exact zH _|apply zT));done) rfl) ?_ | refine qj_val (wn0 rfl) rfl rfl (y_load_slc ⟨Tryz.isAgg30, Tryz.sizeOf30⟩ rfl (by (repeat (first|exact zH _|apply zT));done) rfl) ?_
  refine qj_val (wn0 rfl) rfl rfl (y_nilCheck rfl) ?_
  refine qj_val (wn0 rfl) rfl rfl (y_fieldAddr (k := 1) Tryz.underlying81 rfl (n := 1) (by decide) Tryz.sizeOf3 rfl) ?_
  first | refine qj_val (wn0 rfl) rfl rfl (y_load ⟨Tryz.isAgg3, Tryz.sizeOf3⟩ rfl (by (repeat (first|exact zH _|apply zT));done) rfl) ?_ | refine qj_val (wn0 rfl) rfl rfl (y_load_slc ⟨Tryz.isAgg3, Tryz.sizeOf3⟩ rfl (by (repeat (first|exact zH _|apply zT));done) rfl) ?_
  refine qj_val (wn0 rfl) rfl rfl ((y_sub64 rfl rfl (by omega))) ?_
  refine qj_val (wn0 rfl) rfl rfl ((Yld.to (u := .int .i64 (((x.n - 1) / 2 : Nat) : Int)) (y_quo rfl rfl (by decide)) (by rw [Int.tdiv_eq_ediv_of_nonneg (by omega), show ((x.n : Int) - 1) / 2 = (((x.n - 1) / 2 : Nat) : Int) by omega, wrap_in (by (simp only [IntKind.min, IntKind.max, IntKind.signed, IntKind.bits, Bool.false_eq_true, ite_false, ite_true]; omega))]))) ?_
  refine qj_val (wn0 rfl) rfl rfl ((y_index_slc Tryz.underlying35 Tryz.sizeOf31 rfl rfl (by (repeat (first|exact zH _|apply zT));done) (by omega))) ?_
  refine qj_val (wn0 rfl) rfl rfl ((Yld.to (u := .int .u64 x.mid) (y_load_slc ⟨Tryz.isAgg31, Tryz.sizeOf31⟩ rfl (by (repeat (first|exact zH _|apply zT));done) (u64_nth l2 ((x.n - 1) / 2) _ rfl (by omega))) (by rw [mid_eq hpm hsrt]))) ?_
  refine qj_val (wn0 rfl) rfl rfl (y_assign rfl) ?_
  refine qj_nil ?_
  refine hK5 _ _ _ ?_
  refine cj_env (eL 1 rfl (eL 3 rfl eN)) ?_
  refine cj_seq (fun K6 hK6 => ?_)
  refine cj_draw (by kernel_rfl) (by kernel_rfl) ?_
  refine qj_val (wn0 rfl) rfl rfl (y_move rfl) ?_
  first | refine qj_val (wn0 rfl) rfl rfl (y_load ⟨Tryz.isAgg30, Tryz.sizeOf30⟩ rfl (by (repeat (first|exact zH _|apply zT));done) rfl) ?_ | refine qj_val (wn0 rfl) rfl rfl (y_load_slc ⟨Tryz.isAgg30, Tryz.sizeOf30⟩ rfl (by (repeat (first|exact zH _|apply zT));done) rfl) ?_
  refine qj_val (wn0 rfl) rfl rfl (y_nilCheck rfl) ?_
  refine qj_val (wn0 rfl) rfl rfl (y_fieldAddr (k := 5) Tryz.underlying81 rfl (n := 1) (by decide) Tryz.sizeOf31 rfl) ?_
  first | refine qj_val (wn0 rfl) rfl rfl (y_load ⟨Tryz.isAgg31, Tryz.sizeOf31⟩ rfl (by (repeat (first|exact zH _|apply zT));done) rfl) ?_ | refine qj_val (wn0 rfl) rfl rfl (y_load_slc ⟨Tryz.isAgg31, Tryz.sizeOf31⟩ rfl (by (repeat (first|exact zH _|apply zT));done) rfl) ?_
  refine qj_val (wn0 rfl) rfl rfl (y_gtr rfl rfl) ?_
  refine qj_val (wn0 rfl) rfl rfl (y_move rfl) ?_
  refine qj_part 30 rfl (fun hg30 => ?_) (fun hg30 => ?_)
  ·have f1 : x.mid > x.commit := by (try simp at hg30); omega
   first | refine qj_val (wn1 rfl rfl rfl rfl) rfl rfl (y_load ⟨Tryz.isAgg30, Tryz.sizeOf30⟩ rfl (by (repeat (first|exact zH _|apply zT));done) rfl) ?_ | refine qj_val (wn1 rfl rfl rfl rfl) rfl rfl (y_load_slc ⟨Tryz.isAgg30, Tryz.sizeOf30⟩ rfl (by (repeat (first|exact zH _|apply zT));done) rfl) ?_
   refine qj_val (wn1 rfl rfl rfl rfl) rfl rfl (y_move rfl) ?_
   refine qj_val (wn1 rfl rfl rfl rfl) rfl rfl (y_call Tryz.call63 rfl (ndTermAt_q b v x hg hva3 x.mid (by unfold u64B; omega)) (by (repeat (first|exact zN _|(apply zS;focus (repeat (first|exact zH _|apply zT))))))) ?_
   first | refine qj_val (wn1 rfl rfl rfl rfl) rfl rfl (y_load ⟨Tryz.isAgg30, Tryz.sizeOf30⟩ rfl (by (repeat (first|exact zH _|apply zT));done) rfl) ?_ | refine qj_val (wn1 rfl rfl rfl rfl) rfl rfl (y_load_slc ⟨Tryz.isAgg30, Tryz.sizeOf30⟩ rfl (by (repeat (first|exact zH _|apply zT));done) rfl) ?_
   refine qj_val (wn1 rfl rfl rfl rfl) rfl rfl (y_nilCheck rfl) ?_
   refine qj_val (wn1 rfl rfl rfl rfl) rfl rfl (y_fieldAddr (k := 2) Tryz.underlying81 rfl (n := 1) (by decide) Tryz.sizeOf44 rfl) ?_
   first | refine qj_val (wn1 rfl rfl rfl rfl) rfl rfl (y_load ⟨Tryz.isAgg44, Tryz.sizeOf44⟩ rfl (by (repeat (first|exact zH _|apply zT));done) rfl) ?_ | refine qj_val (wn1 rfl rfl rfl rfl) rfl rfl (y_load_slc ⟨Tryz.isAgg44, Tryz.sizeOf44⟩ rfl (by (repeat (first|exact zH _|apply zT));done) rfl) ?_
   refine qj_val (wn1 rfl rfl rfl rfl) rfl rfl (y_call Tryz.call13 rfl (lgTerm_q b.l (some ⟨b.d, 0, none⟩) v.va x.g) (by (repeat (first|exact zN _|(apply zS;focus (repeat (first|exact zH _|apply zT))))))) ?_
   refine qj_val (wn1 rfl rfl rfl rfl) rfl rfl (y_eql rfl rfl) ?_
   refine qj_val (wn0 rfl) rfl rfl (y_pick_t rfl rfl) ?_
   refine qj_nil ?_
   refine hK6 _ _ _ ?_
   refine cj_env (eL 1 rfl (eL 3 rfl (eL 40 rfl eN))) ?_
   refine cj_cond rfl (fun hc40 => ?_) (fun hc40 => ?_)
   ·first | have hc : x.count = { x with commit := x.mid } := by unfold ND.count; rw [if_pos ⟨f1, by simpa using hc40⟩] | skip
    refine cj_region ?_
    first | refine rv0 rfl rfl rfl (y_load ⟨Tryz.isAgg30, Tryz.sizeOf30⟩ rfl (by (repeat (first|exact zH _|apply zT));done) rfl) ?_ | refine rv0 rfl rfl rfl (y_load_slc ⟨Tryz.isAgg30, Tryz.sizeOf30⟩ rfl (by (repeat (first|exact zH _|apply zT));done) rfl) ?_
    refine rv0 rfl rfl rfl (y_move rfl) ?_
    refine rv0 rfl rfl rfl (y_nilCheck rfl) ?_
    refine rv0 rfl rfl rfl (y_fieldAddr (k := 5) Tryz.underlying81 rfl (n := 1) (by decide) Tryz.sizeOf31 rfl) ?_
    refine rj_store ⟨Tryz.isAgg31, Tryz.sizeOf31⟩ (wn0 rfl) rfl rfl (by (first | rfl | assumption | (apply cutV_one; assumption))) (by (repeat (first|exact zH _|apply zT));done) rfl rfl ?_
    refine rj_nil ?_
    refine hend _ _ _ ?_
    apply ej_end Tryz.results71 .nil _ [ndB b v x.count, lgN b v x.count, prA v x.count] (by exact Hp.le_trans hR2 hR3) rfl
    case hp => rfl
    case hS => rw [hc]; (repeat (first|exact zR _|(apply zP;focus (repeat (first|exact zH _|apply zT)))|apply zD|exact zA _ _))
   ·first | have hc : x.count = x := by unfold ND.count; rw [if_neg (fun h => by have h2 := h.2; simp at hc40; exact hc40 h2)] | skip
    refine cj_skip ?_
    refine hend _ _ _ ?_
    apply ej_end Tryz.results71 .nil _ [ndB b v x.count, lgN b v x.count, prA v x.count] (by exact Hp.le_trans hR2 hR3) rfl
    case hp => rfl
    case hS => rw [hc]; (repeat (first|exact zR _|(apply zP;focus (repeat (first|exact zH _|apply zT)))|apply zD|exact zA _ _))
  ·have f1 : ¬ x.mid > x.commit := by (try simp at hg30); omega
   have hc : x.count = x := by unfold ND.count; rw [if_neg (fun h => f1 h.1)]
   refine qj_skip (wn2 rfl rfl rfl rfl rfl) rfl rfl ?_
   refine qj_skip (wn2 rfl rfl rfl rfl rfl) rfl rfl ?_
   refine qj_skip (wn2 rfl rfl rfl rfl rfl) rfl rfl ?_
   refine qj_skip (wn2 rfl rfl rfl rfl rfl) rfl rfl ?_
   refine qj_skip (wn2 rfl rfl rfl rfl rfl) rfl rfl ?_
   refine qj_skip (wn2 rfl rfl rfl rfl rfl) rfl rfl ?_
   refine qj_skip (wn2 rfl rfl rfl rfl rfl) rfl rfl ?_
   refine qj_skip (wn2 rfl rfl rfl rfl rfl) rfl rfl ?_
   refine qj_skip (wn2 rfl rfl rfl rfl rfl) rfl rfl ?_
   refine qj_val (wn0 rfl) rfl rfl (y_pick_f rfl rfl) ?_
   refine qj_nil ?_
   refine hK6 _ _ _ ?_
   refine cj_env (eL 1 rfl (eL 3 rfl (eL 40 rfl eN))) ?_
   refine cj_cond_f rfl ?_
   refine cj_skip ?_
   refine hend _ _ _ ?_
   apply ej_end Tryz.results71 .nil _ [ndB b v x.count, lgN b v x.count, prA v x.count] (by exact Hp.le_trans hR2 hR3) rfl
   case hp => rfl
   case hS => rw [hc]; (repeat (first|exact zR _|(apply zP;focus (repeat (first|exact zH _|apply zT)))|apply zD|exact zA _ _))
end V
end Go.Proofs.YtjdbigplednihaaGreat
set_option linter.unusedSimpArgs false
set_option linter.unusedVariables false
set_option maxRecDepth 100000
namespace Go.Proofs.YtjdbigplednihaaGreat
open Go.RowKit
namespace V
set_option maxHeartbeats 4000000
def lostE : PanicEntry := ⟨.iface 113 (.agg ⟨[]⟩), false, false⟩
@[reducible] def NRet (b : NB) (F : Bool × NS) (r : Value) (R' : Hp) (L' : List Asn) : Prop := F.1 = true ∧ ∃ v', NOk R' v' F.2.1 ∧ L' = ndL b v' F.2.1 F.2.2
@[reducible] def NPan (b : NB) (F : Bool × NS) (ch : List PanicEntry) (R' : Hp) (L' : List Asn) : Prop := F.1 = false ∧ ch = [lostE] ∧ ∃ v', NOk R' v' F.2.1 ∧ L' = ndL b v' F.2.1 F.2.2
theorem must_t {R : Hp} (b : NB) (v : NV) (x : ND) (e : Int) : Tri Tryz.prog 39 [.pointer (some ⟨b.x, 0, none⟩), .int .i64 e] R [ndB b v x]
    (fun r R' L' => e = 0 ∧ L' = [ndB b v x]) (fun ch R' L' => ¬ e = 0 ∧ ch = [lostE] ∧ L' = [ndB b v { x with down := true }]) := by
  refine tri_of Tryz.func39 rfl Tryz.ntmps39 rfl (fun σ F Q hret hend hpan => ?_)
  try simp only [List.cons_append, List.nil_append]
  refine cj_env (eL 0 rfl (eL 1 rfl eN)) ?_
  refine cj_seq (fun K1 hK1 => ?_)
  refine cj_region ?_
  refine rv0 rfl rfl rfl (y_move rfl) ?_
  refine rv0 rfl rfl rfl (y_neq rfl rfl) ?_
  refine rj_nil ?_
  refine hK1 _ _ _ ?_
  refine cj_cond rfl (fun hc5 => ?_) (fun hc5 => ?_)
  ·have f1 : ¬ e = 0 := by simpa using hc5
   refine cj_seq (fun K3 hK3 => ?_)
   refine cj_region ?_
   refine rv0 rfl rfl rfl (y_move rfl) ?_
   refine rv0 rfl rfl rfl (y_nilCheck rfl) ?_
   refine rv0 rfl rfl rfl (y_fieldAddr (k := 10) Tryz.underlying81 rfl (n := 1) (by decide) Tryz.sizeOf4 rfl) ?_
   refine rj_store ⟨Tryz.isAgg4, Tryz.sizeOf4⟩ (wn0 rfl) rfl rfl (by (first | rfl | assumption | (apply cutV_one; assumption))) (by (repeat (first|exact zH _|apply zT));done) rfl rfl ?_
   refine rj_nil ?_
   refine hK3 _ _ _ ?_
   refine cj_env eN ?_
   refine cj_region ?_
   refine rv0 rfl rfl rfl (y_build (cells := []) [] Tryz.underlying113 Tryz.zeroValue113 (fun _ => rfl) rfl rfl) ?_
   refine rv0 rfl rfl rfl (y_makeInterface Tryz.underlying113 rfl) ?_
   refine rj_panic (wn0 rfl) rfl ?_
   refine hpan _ _ _ _ ?_
   refine ej_pan _ ([ndB b v { x with down := true }]) (by first | exact Hp.le_refl _ | assumption | exact Hp.le_trans ‹_› ‹_›) rfl (by (repeat (first|exact zR _|(apply zP;focus (repeat (first|exact zH _|apply zT)))|apply zD|exact zA _ _))) ?_
   exact ⟨f1, rfl, rfl⟩
  ·have f1 : e = 0 := by simpa using hc5
   refine cj_skip ?_
   refine hend _ _ _ ?_
   apply ej_end Tryz.results39 .nil _ [ndB b v x] (Hp.le_refl _) rfl
   case hp => exact ⟨f1, rfl⟩
   case hS => (repeat (first|exact zR _|(apply zP;focus (repeat (first|exact zH _|apply zT)))|apply zD|exact zA _ _))
theorem addD_ok {g : LG} {D : DK} {i : Int} {m : List Ent} (h : (g.addD D i m).1 = 0) : (g.addD D i m).2.1 = g.play (.add i m) := by
  unfold LG.addD at h ⊢
  split at h
  · cases h
  · split at h
    · cases h
    · split at h
      · rename_i h1 h2 h3
        rw [if_neg h1, if_neg h2, if_pos h3]
      · rename_i h3; exact absurd h h3
theorem setD_ok {g : LG} {D : DK} {t vt : Int} (h : (g.setTermD D t vt).1 = 0) : (g.setTermD D t vt).2.1 = { g with term := t, vote := vt } := by
  unfold LG.setTermD at h ⊢
  split at h
  · cases h
  · split at h
    · cases h
    · split at h
      · rename_i h1 h2 h3
        rw [if_neg h1, if_neg h2, if_pos h3]
      · rename_i h3; exact absurd h h3
theorem NIn.add {k : Nat} {x : ND} (h : NIn k x) {i : Int} {m : List Ent} (hm : ∀ e ∈ m, (0 ≤ e.1 ∧ e.1 ≤ 2305843009213693952 + k) ∧ e.2.length ≤ 100) (hl : m.length ≤ 20) : NIn (k + 1) { x with g := x.g.play (.add i m) } := by
  have h1 := h.le (show k ≤ k + 1 by omega)
  refine ⟨h1.idn, h1.term, h1.vote, h1.base, h1.baseT, h1.state, ?_, fun e he => ?_, h1.commit, h1.patience, h1.peers, h1.peer, h1.votes, h1.out⟩
  · have := h.alln
    show (x.g.all.take _ ++ m).length ≤ _
    simp; omega
  · rcases List.mem_append.1 he with he | he
    · exact h1.all e (List.mem_of_mem_take he)
    · have := hm e he; omega
theorem NIn.count {k : Nat} {x : ND} (hk : k ≤ 100) (h : NIn k x) : NIn k x.count := by
  unfold ND.count
  split
  · exact ⟨h.idn, h.term, h.vote, h.base, h.baseT, h.state, h.alln, h.all, mid_b hk h, h.patience, h.peers, h.peer, h.votes, h.out⟩
  · exact h
theorem count_out (x : ND) : x.count.out = x.out ∧ x.count.g = x.g ∧ x.count.role = x.role ∧ x.count.peers = x.peers ∧ x.count.n = x.n ∧ x.count.votes = x.votes := by
  unfold ND.count
  split <;> exact ⟨rfl, rfl, rfl, rfl, rfl, rfl⟩
def NV.logd (v : NV) (u va : Value) : NV := { v with u := u, va := va }
theorem NOk.logd {R R' : Hp} {v : NV} {x : ND} (h : NOk R v x) (hR : R.le R') {y : ND} (hy : y.out = x.out ∧ y.role = x.role) {u va : Value} (hva : FrX entE R' y.g.all va) : NOk R' (v.logd u va) y :=
  ⟨hva, by rw [hy.1]; exact h.out.mono hR, h.vm, h.vp, h.vo, by rw [hy.2]; exact h.map⟩
theorem NOk.to {R R' : Hp} {v : NV} {x : ND} (h : NOk R v x) (hR : R.le R') {y : ND} (hy : y.out = x.out ∧ y.role = x.role ∧ y.g.all = x.g.all) : NOk R' v y :=
  ⟨by rw [hy.2.2]; exact h.va.mono hR, by rw [hy.1]; exact h.out.mono hR, h.vm, h.vp, h.vo, by rw [hy.2.1]; exact h.map⟩
theorem sends_n (x : ND) (l : List Msg) : (x.sends l).g = x.g ∧ (x.sends l).role = x.role := ⟨rfl, rfl⟩
theorem feedAll_eq (x : ND) : x.feedAll = x.sends (x.others.map x.feedMsg) := feeds_eq x _
theorem count_eq (x : ND) : ∃ c, x.count = { x with commit := c } := by
  unfold ND.count
  split
  · exact ⟨_, rfl⟩
  · exact ⟨x.commit, rfl⟩
theorem entry_t {R : Hp} (b : NB) (v : NV) (x : ND) (D : DK) (cmd : Bs) (k m : Nat) (hk : k ≤ 60) (hx : NIn k x) (hv : NOk R v x) (hp : x.peers.length = x.n) (hcmd : cmd.length ≤ 100) (hD : D.ok m) (hm : m ≤ 900000000) :
    Tri Tryz.prog 53 [.pointer (some ⟨b.x, 0, none⟩), .string (str cmd)] R (ndL b v x D) (NRet b (entryN (x, D) cmd)) (NPan b (entryN (x, D) cmd)) := by
  have hg := hx.g (by omega)
  have hlb := LG.last_b hg
  have hva := hv.va
  have hterm := hx.term
  have hob := hx.base
  obtain ⟨ra, hra⟩ : ∃ r, r = x.g.addD D x.g.last [(x.g.term, cmd)] := ⟨_, rfl⟩
  have hE : entryN (x, D) cmd = bindN (mustN (x, D) ra) fun s => (true, (s.1.count.feedAll, s.2)) := by rw [hra]; rfl
  refine tri_of Tryz.func53 rfl Tryz.ntmps53 rfl (fun σ F Q hret hend hpan => ?_)
  try simp only [List.cons_append, List.nil_append]
  refine cj_env (eL 0 rfl (eL 1 rfl eN)) ?_
  refine cj_seq (fun K1 hK1 => ?_)
  refine cj_mixg (L := [ndB b v x]) [0, 1, 2, 3, 4, 5, 6, 7, 8, 10, 11, 12, 13, 15] [9, 14, 16, 17, 18] [19] _ (by (repeat (first|exact zR _|(apply zP;focus (repeat (first|exact zH _|apply zT)))|apply zD|exact zA _ _))) (by kernel_rfl) (by kernel_rfl) (by kernel_rfl) rfl ?_
  refine fj_val rfl rfl rfl (wn0 rfl) (fun R1 hR1 G => (y_move rfl)) ?_
  refine fj_val rfl rfl rfl (wn0 rfl) (fun R1 hR1 G => (y_move rfl)) ?_
  refine fj_val rfl rfl rfl (wn0 rfl) (fun R1 hR1 G => (y_nilCheck rfl)) ?_
  refine fj_val rfl rfl rfl (wn0 rfl) (fun R1 hR1 G => (y_fieldAddr (k := 2) Tryz.underlying81 rfl (n := 1) (by decide) Tryz.sizeOf44 rfl)) ?_
  first | refine fj_val rfl rfl rfl (wn0 rfl) (fun R1 hR1 G => (y_load ⟨Tryz.isAgg44, Tryz.sizeOf44⟩ rfl (by (repeat (first|exact zH _|apply zT));done) rfl)) ?_ | refine fj_val rfl rfl rfl (wn0 rfl) (fun R1 hR1 G => (y_load_slc ⟨Tryz.isAgg44, Tryz.sizeOf44⟩ rfl (by (repeat (first|exact zH _|apply zT));done) rfl)) ?_
  refine fj_val rfl rfl rfl (wn0 rfl) (fun R1 hR1 G => (y_move rfl)) ?_
  refine fj_val rfl rfl rfl (wn0 rfl) (fun R1 hR1 G => (y_nilCheck rfl)) ?_
  refine fj_val rfl rfl rfl (wn0 rfl) (fun R1 hR1 G => (y_fieldAddr (k := 2) Tryz.underlying81 rfl (n := 1) (by decide) Tryz.sizeOf44 rfl)) ?_
  first | refine fj_val rfl rfl rfl (wn0 rfl) (fun R1 hR1 G => (y_load ⟨Tryz.isAgg44, Tryz.sizeOf44⟩ rfl (by (repeat (first|exact zH _|apply zT));done) rfl)) ?_ | refine fj_val rfl rfl rfl (wn0 rfl) (fun R1 hR1 G => (y_load_slc ⟨Tryz.isAgg44, Tryz.sizeOf44⟩ rfl (by (repeat (first|exact zH _|apply zT));done) rfl)) ?_
  refine fj_val rfl rfl rfl (wn0 rfl) (fun R1 hR1 G => (y_move rfl)) ?_
  refine fj_val rfl rfl rfl (wn0 rfl) (fun R1 hR1 G => (y_nilCheck rfl)) ?_
  refine fj_val rfl rfl rfl (wn0 rfl) (fun R1 hR1 G => (y_fieldAddr (k := 2) Tryz.underlying81 rfl (n := 1) (by decide) Tryz.sizeOf44 rfl)) ?_
  first | refine fj_val rfl rfl rfl (wn0 rfl) (fun R1 hR1 G => (y_load ⟨Tryz.isAgg44, Tryz.sizeOf44⟩ rfl (by (repeat (first|exact zH _|apply zT));done) rfl)) ?_ | refine fj_val rfl rfl rfl (wn0 rfl) (fun R1 hR1 G => (y_load_slc ⟨Tryz.isAgg44, Tryz.sizeOf44⟩ rfl (by (repeat (first|exact zH _|apply zT));done) rfl)) ?_
  refine fj_val rfl rfl rfl (wn0 rfl) (fun R1 hR1 G => (y_move rfl)) ?_
  refine fj_nil ?_
  refine xj_rj rfl ?_
  try simp only [List.cons_append, List.nil_append, List.append_nil]
  refine rv0 rfl rfl rfl (y_call Tryz.call19 rfl (lgLast_q b.l (some ⟨b.d, 0, none⟩) v.va x.g hg hva) (by (repeat (first|exact zN _|(apply zS;focus (repeat (first|exact zH _|apply zT))))))) ?_
  refine rj_xk (by (first | exact Hp.le_refl _ | assumption | exact Hp.le_trans ‹_› ‹_›)) (by (repeat (first|exact zR _|(apply zP;focus (repeat (first|exact zH _|apply zT)))|apply zD|exact zA _ _))) ?_
  refine xj_rj rfl ?_
  try simp only [List.cons_append, List.nil_append, List.append_nil]
  refine rv0 rfl rfl rfl (y_call Tryz.call13 rfl (lgTerm_q b.l (some ⟨b.d, 0, none⟩) v.va x.g) (by (repeat (first|exact zN _|(apply zS;focus (repeat (first|exact zH _|apply zT))))))) ?_
  refine rj_xk (by (first | exact Hp.le_refl _ | assumption | exact Hp.le_trans ‹_› ‹_›)) (by (repeat (first|exact zR _|(apply zP;focus (repeat (first|exact zH _|apply zT)))|apply zD|exact zA _ _))) ?_
  refine xj_rj rfl ?_
  try simp only [List.cons_append, List.nil_append, List.append_nil]
  refine rv0 rfl rfl rfl (y_build (cells := [_, _]) [(0, 1), (1, 1)] Tryz.underlying60 Tryz.zeroValue60 (fun _ => rfl) rfl rfl) ?_
  refine rj_xk (by (first | exact Hp.le_refl _ | assumption | exact Hp.le_trans ‹_› ‹_›)) (by (repeat (first|exact zR _|(apply zP;focus (repeat (first|exact zH _|apply zT)))|apply zD|exact zA _ _))) ?_
  refine xj_rj rfl ?_
  try simp only [List.cons_append, List.nil_append, List.append_nil]
  refine rj_buildSlice (sz := 2) (wn0 rfl) rfl Tryz.underlying32 Tryz.sizeOf60 Tryz.zeroValue60 rfl rfl rfl (by decide) (by decide) (fun b21 => ?_)
  refine rj_xk (by (first | exact Hp.le_refl _ | assumption | exact Hp.le_trans ‹_› ‹_›)) (by (repeat (first|exact zR _|(apply zP;focus (repeat (first|exact zH _|apply zT)))|apply zD|exact zA _ _))) ?_
  refine xj_rj rfl ?_
  try simp only [List.cons_append, List.nil_append, List.append_nil]
  refine rj_freeze (e := 60) (sz := 2) (n := 1) (v := .slice (some ⟨b21, 0, none⟩) 1 1) (xs := entsC [(x.g.term, cmd)]) (by (repeat (first|exact zH _|apply zT));done) (fun R3 hR3 hfr hxl => ?_)
  have hvm := entsFr (l := [(x.g.term, cmd)]) hfr
  refine rj_call (wn0 rfl) rfl Tryz.call89 rfl (lgAdd_t b.l b.d v.va v.u _ x.g D m x.g.last [(x.g.term, cmd)] hg (by unfold u64B; omega) (hva.mono hR3) hvm (by simp) (by simp [u64B]; omega) (by simp [entsLen]; omega) hD hm) (by (repeat (first|exact zN _|(apply zS;focus (repeat (first|exact zH _|apply zT)))))) (fun _ _ _ _ h => h.elim) ?_
  rintro r R4 L' hR4 ⟨rfl, u2, va2, hva2, rfl⟩
  rw [← hra] at hva2 ⊢
  have hR34 := Hp.le_trans hR3 hR4
  try simp only [List.cons_append, List.nil_append]
  refine rj_xk (by (first | exact Hp.le_refl _ | assumption | exact Hp.le_trans ‹_› ‹_›)) (by (repeat (first|exact zR _|(apply zP;focus (repeat (first|exact zH _|apply zT)))|apply zD|exact zA _ _))) ?_
  refine xj_nil ?_
  try simp only [List.cons_append, List.nil_append, List.append_nil]
  refine rj_call (wn0 rfl) rfl Tryz.call39 rfl (must_t b (v.logd u2 va2) x _) (by (repeat (first|exact zN _|(apply zS;focus (repeat (first|exact zH _|apply zT)))))) (fun ch Rp Lp hRp hpp => ?_) ?_
  · obtain ⟨he1, rfl, rfl⟩ := hpp
    try simp only [List.cons_append, List.nil_append]
    refine hpan _ _ _ _ ?_
    refine ej_pan _ (ndL b (v.logd u2 va2) { x with g := ra.2.1, down := true } ra.2.2) (by first | exact Hp.le_refl _ | assumption | exact Hp.le_trans ‹_› ‹_› | exact Hp.le_trans hR34 hRp) rfl (by (repeat (first|exact zR _|(apply zP;focus (repeat (first|exact zH _|apply zT)))|apply zD|exact zA _ _))) ?_
    exact ⟨by rw [hE]; simp [bindN, mustN, he1], rfl, v.logd u2 va2, by rw [hE]; simp only [bindN, mustN, if_neg he1]; exact hv.logd (y := { x with g := ra.2.1, down := true }) (Hp.le_trans hR34 hRp) ⟨rfl, rfl⟩ (hva2.mono hRp), by rw [hE]; simp [bindN, mustN, he1]⟩
  rintro r R5 L' hR5 ⟨he0, rfl⟩
  have hx1 : NIn (k + 1) { x with g := ra.2.1 } := by rw [hra, addD_ok (by rw [← hra]; exact he0)]; exact hx.add (fun e he => by simp at he; subst he; exact ⟨⟨by omega, by omega⟩, hcmd⟩) (by simp)
  have hR35 := Hp.le_trans hR34 hR5
  try simp only [List.cons_append, List.nil_append]
  refine rj_nil ?_
  refine hK1 _ _ _ ?_
  refine cj_env (eL 0 rfl eN) ?_
  refine cj_seq (fun K2 hK2 => ?_)
  refine cj_region ?_
  refine rv0 rfl rfl rfl (y_move rfl) ?_
  refine rj_call (wn0 rfl) rfl Tryz.call71 rfl (count_t b (v.logd u2 va2) { x with g := ra.2.1 } (k + 1) (by omega) hx1 (hva2.mono hR5) hv.vp hp) (by (repeat (first|exact zN _|(apply zS;focus (repeat (first|exact zH _|apply zT)))))) (fun _ _ _ _ h => h.elim) ?_
  rintro r R6 L' hR6 rfl
  have hx2 := NIn.count (by omega) hx1
  obtain ⟨c, hc⟩ := count_eq { x with g := ra.2.1 }
  rw [hc] at hx2 ⊢
  have hR36 := Hp.le_trans hR35 hR6
  have hv2 : NOk R6 (v.logd u2 va2) { x with g := ra.2.1, commit := c } := hv.logd (y := { x with g := ra.2.1, commit := c }) hR36 ⟨rfl, rfl⟩ ((hva2.mono hR5).mono hR6)
  try simp only [List.cons_append, List.nil_append]
  refine rj_nil ?_
  refine hK2 _ _ _ ?_
  refine cj_region ?_
  refine rv0 rfl rfl rfl (y_move rfl) ?_
  refine rv0 rfl rfl rfl (y_move rfl) ?_
  refine rv0 rfl rfl rfl (y_makeFunc rfl rfl) ?_
  refine rj_call (wn0 rfl) rfl Tryz.call34 rfl (feedAll_t b (v.logd u2 va2) { x with g := ra.2.1, commit := c } (k + 1) (by omega) hx2 hv2 hp) (by (repeat (first|exact zN _|(apply zS;focus (repeat (first|exact zH _|apply zT)))))) (fun _ _ _ _ h => h.elim) ?_
  rintro r R7 L' hR7 ⟨vo, css, hels, hvo, rfl⟩
  try simp only [List.cons_append, List.nil_append]
  refine rj_nil ?_
  refine hend _ _ _ ?_
  have hF : entryN (x, D) cmd = (true, (ND.feedAll { x with g := ra.2.1, commit := c }, ra.2.2)) := by rw [hE]; simp [bindN, mustN, he0, hc]
  apply ej_end Tryz.results53 .nil _ (ndL b ((v.logd u2 va2).sent vo css) (ND.feedAll { x with g := ra.2.1, commit := c }) ra.2.2) (Hp.le_trans hR36 hR7) rfl
  case hp => rw [hF]; exact ⟨rfl, _, hv2.sent hR7 (by rw [feedAll_eq]; exact sends_n _ _) hels hvo, rfl⟩
  case hS => rw [feedAll_eq] at *; (repeat (first|exact zR _|(apply zP;focus (repeat (first|exact zH _|apply zT)))|apply zD|exact zA _ _))
end V
end Go.Proofs.YtjdbigplednihaaGreat
set_option linter.unusedSimpArgs false
set_option linter.unusedVariables false
namespace Go.Proofs.YtjdbigplednihaaGreat
open Go.RowKit
namespace V
section
variable {c : Cx} {ops : Array Oper} {Q : Exit → Act → World → Prop} {E : Env} {R : Hp} {L : List Asn} {rest : List Oper} {ty : TypeId} {p : String} {af : Array Edge} {g : Option (Nat × Bool)}
theorem made_eq (z : List Value) (n : Nat) (h : z ≠ []) : madeCells ⟨z⟩ (n * z.length) = ⟨(List.replicate n z).flatten⟩ := by
  have hl : 0 < z.length := List.length_pos_iff.2 h
  apply Array.ext'
  simp only [madeCells, Array.toList_map, Array.toList_range]
  apply List.ext_getElem?
  intro i
  rw [List.getElem?_map]
  by_cases hi : i < n * z.length
  · have hm : i % z.length < z.length := Nat.mod_lt _ hl
    have hd : i / z.length < n := by rw [Nat.div_lt_iff_lt_mul hl]; exact hi
    have h1 := fget (n := z.length) (css := List.replicate n z) (i := i / z.length) (cs := z) (j := i % z.length) (u := z[i % z.length]) (fun c hc => by rw [List.eq_of_mem_replicate hc]) (by rw [List.getElem?_replicate, if_pos hd]) (List.getElem?_eq_getElem hm)
    rw [Nat.mul_comm, Nat.div_add_mod] at h1
    rw [h1, List.getElem?_range hi]
    simp [hm]
  · rw [List.getElem?_eq_none (by simp; omega), List.getElem?_eq_none (by
      rw [flen (n := z.length) (fun c hc => by rw [List.eq_of_mem_replicate hc])]
      simp; omega)]
    rfl
theorem rj_makeSlice {dd : Nat} {x : Operand} {t e : TypeId} {i : TypeInfo} {zz : Value} {n sz : Nat} {z : List Value} (hw : Wn c ops E ⟨some dd, .makeSlice t x x, ty, p, af, g⟩ true) (hn : Nat.blt dd c.n = true) (ht : c.P.underlying t = some (.slice e)) (hi : c.P.info? e = some i) (hz : i.zero = some zz)
    (hzc : zz.cells = ⟨z⟩) (hsz : i.size = sz) (hzl : z.length = sz) (h0 : 0 < sz) (e1 : ev E x = some (.int .i64 (n : Int))) (hb : i.bytes * n ≤ 281474976710656) (hm : n ≤ maxLen)
    (h : ∀ b, RJ c ops Q rest ((dd, .slice (some ⟨b, 0, none⟩) n n) :: E) R (slc e sz (.slice (some ⟨b, 0, none⟩) n n) n (List.replicate n z).flatten :: L)) : RJ c ops Q (⟨some dd, .makeSlice t x x, ty, p, af, g⟩ :: rest) E R L := by
  subst hsz
  refine rj_new (v := fun b => .slice (some ⟨b, 0, none⟩) n n) (L' := fun b => slc e i.size (.slice (some ⟨b, 0, none⟩) n n) n (List.replicate n z).flatten :: L) hw rfl hn (fun a w hf hs => ⟨w.heap.size, w.alloc (.cells ⟨(List.replicate n z).flatten⟩ e (0, 0)), ?_, ?_⟩) h
  · have hb' : (i.bytes : Int) * (n : Int) ≤ 281474976710656 := by rw [← Int.natCast_mul]; omega
    have hm' : (n : Int) ≤ 9223372036854775807 := by unfold maxLen at hm; omega
    have := run_make (P := c.P) w t e i zz ht hi hz .i64 .i64 n n (by omega) (by omega) hb' hm'
    rw [hzc, show ((n : Nat) : Int).toNat = n by simp, ← hzl, made_eq z n (by intro h; rw [h] at hzl; simp at hzl; omega)] at this
    simp [execOp, hf.ev e1, this]
  · refine Sat.turn (fun h hh => ?_) (hs.alloc (.cells ⟨(List.replicate n z).flatten⟩ e (0, 0)))
    have hxl : (List.replicate n z).flatten.length = n * i.size := by
      rw [flen (n := i.size) (fun c hc => by rw [List.eq_of_mem_replicate hc]; exact hzl)]; simp
    exact ⟨hxl, .inr ⟨w.heap.size, n, (0, 0), [], [], rfl, by simpa using hh, fun o _ h => by simp at h, Nat.le_refl _, hm, by simp [hxl]⟩⟩
variable {M : List Asn}
theorem rj_insert {t kt et : TypeId} {ik : IntKind} {m x y : Operand} {b : Nat} {f : Int → Option Value} {n : Nat} {a : Int} {v : Value} (hm : c.P.underlying t = some (.map kt et)) (hd : c.P.underlying kt = some (.int ik))
    (hw : Wn c ops E ⟨none, .insert t m x y, ty, p, af, g⟩ true) (e1 : ev E m = some (.map (some b))) (e2 : ev E x = some (.int ik a)) (e3 : ev E y = some v) (fd : Find (mapF b ik f n) L M)
    (h : RJ c ops Q rest E R (mapF b ik (fset f a v) (if (f a).isSome then n else n + 1) :: M)) : RJ c ops Q (⟨none, .insert t m x y, ty, p, af, g⟩ :: rest) E R L := by
  refine rj_runs hw rfl (fun ac w hf hs => ?_) h
  obtain ⟨w', h1, h2⟩ := run_mapUpdate hm hd (hs.find fd) a v
  exact ⟨w', by simp [execOp, hf.ev e1, hf.ev e2, hf.ev e3, h1], h2⟩
end
end V
end Go.Proofs.YtjdbigplednihaaGreat
set_option linter.unusedSimpArgs false
set_option linter.unusedVariables false
set_option maxRecDepth 100000
namespace Go.Proofs.YtjdbigplednihaaGreat
open Go.RowKit
namespace V
set_option maxHeartbeats 4000000
theorem pair_set (l : List (Int × Int)) (k : Nat) (z x : Int) (hz : z = k) (hk : k < l.length) : setNth (pairsV l) (z.toNat * 2 + 0) (.int .u64 x) = pairsV (l.set k (x, (l.getD k (0, 0)).2)) ∧ setNth (pairsV l) (z.toNat * 2 + 1) (.int .u64 x) = pairsV (l.set k ((l.getD k (0, 0)).1, x)) := by
  subst hz
  rw [show ((k : Nat) : Int).toNat = k by simp, setNth_eq, setNth_eq]
  have key : ∀ (l : List (Int × Int)) (k : Nat), k < l.length → (pairsV l).set (k * 2 + 0) (.int .u64 x) = pairsV (l.set k (x, (l.getD k (0, 0)).2)) ∧ (pairsV l).set (k * 2 + 1) (.int .u64 x) = pairsV (l.set k ((l.getD k (0, 0)).1, x)) := by
    intro l
    induction l with
    | nil => intro k h; simp at h
    | cons p l ih =>
      intro k h
      cases k with
      | zero => exact ⟨rfl, rfl⟩
      | succ k =>
        obtain ⟨h1, h2⟩ := ih k (by simpa using h)
        rw [Nat.add_zero] at h1
        have e : pairsV (p :: l) = .int .u64 p.1 :: .int .u64 p.2 :: pairsV l := rfl
        rw [e, show (k + 1) * 2 + 0 = k * 2 + 0 + 2 by omega, show (k + 1) * 2 + 1 = k * 2 + 1 + 2 by omega]
        simp only [List.set_cons_succ, List.getD_cons_succ]
        rw [h1, h2]
        exact ⟨rfl, rfl⟩
  exact key l k hk
def winL (n i : Nat) (z : Int) : List (Int × Int) := List.replicate i (z, 0) ++ List.replicate (n - i) (0, 0)
theorem winL_len {n i : Nat} (h : i ≤ n) (z : Int) : (winL n i z).length = n := by unfold winL; simp; omega
theorem winL_set {n i : Nat} (h : i < n) (z : Int) : (winL n i z).set i (z, ((winL n i z).getD i (0, 0)).2) = winL n (i + 1) z := by
  have e : List.replicate (n - i) ((0 : Int), (0 : Int)) = (0, 0) :: List.replicate (n - (i + 1)) (0, 0) := by
    rw [show n - i = (n - (i + 1)) + 1 by omega, List.replicate_succ]
  unfold winL
  rw [e]
  have : (List.replicate i (z, (0 : Int)) ++ (0, 0) :: List.replicate (n - (i + 1)) (0, 0)).getD i (0, 0) = (0, 0) := by
    simp [List.getD_eq_getElem?_getD]
  rw [this, List.set_append_right _ _ (by simp)]
  simp [List.replicate_succ', List.append_assoc]
theorem winL_all (n : Nat) (z : Int) : winL n n z = List.replicate n (z, 0) := by unfold winL; simp
theorem winL_zero (n : Nat) (z : Int) : pairsV (winL n 0 z) = (List.replicate n [Value.int .u64 0, Value.int .u64 0]).flatten := by
  unfold winL pairsV
  simp [pairC]
theorem NIn.wins {k : Nat} (hk : k ≤ 100) {x : ND} (h : NIn k x) : NIn k x.wins := by
  have h1 := h.base
  have h2 := h.alln
  have hl : x.g.last = x.g.base + x.g.all.length := rfl
  exact ⟨h.idn, h.term, h.vote, h.base, h.baseT, h.state, h.alln, h.all, h.commit, ⟨by show (0 : Int) ≤ 0; omega, by show (0 : Int) ≤ _; omega⟩, fun _ => by show (List.replicate _ _).length = _; simp; rfl, fun p hp => by
    have := List.eq_of_mem_replicate hp
    subst this
    refine ⟨⟨?_, ?_⟩, ?_, ?_⟩ <;> simp <;> omega, h.votes, h.out⟩
theorem win_t {R : Hp} (b : NB) (v : NV) (x : ND) (D : DK) (k m : Nat) (hk : k ≤ 60) (hx : NIn k x) (hv : NOk R v x) (hD : D.ok m) (hm : m ≤ 900000000) :
    Tri Tryz.prog 64 [.pointer (some ⟨b.x, 0, none⟩)] R (ndL b v x D) (NRet b (winN (x, D))) (NPan b (winN (x, D))) := by
  have hg := hx.g (by omega)
  have hlb := LG.last_b hg
  have hva := hv.va
  have hidn := hx.idn
  have hE : winN (x, D) = entryN (x.wins, D) [] := rfl
  refine tri_of Tryz.func64 rfl Tryz.ntmps64 rfl (fun σ F Q hret hend hpan => ?_)
  try simp only [List.cons_append, List.nil_append]
  refine cj_env (eL 0 rfl eN) ?_
  refine cj_seq (fun K1 hK1 => ?_)
  refine cj_region ?_
  refine rv0 rfl rfl rfl (y_move rfl) ?_
  refine rv0 rfl rfl rfl (y_move rfl) ?_
  refine rv0 rfl rfl rfl (y_move rfl) ?_
  refine rv0 rfl rfl rfl (y_move rfl) ?_
  refine rv0 rfl rfl rfl (y_nilCheck rfl) ?_
  refine rv0 rfl rfl rfl (y_fieldAddr (k := 0) Tryz.underlying81 rfl (n := 1) (by decide) Tryz.sizeOf3 rfl) ?_
  first | refine rv0 rfl rfl rfl (y_load ⟨Tryz.isAgg3, Tryz.sizeOf3⟩ rfl (by (repeat (first|exact zH _|apply zT));done) rfl) ?_ | refine rv0 rfl rfl rfl (y_load_slc ⟨Tryz.isAgg3, Tryz.sizeOf3⟩ rfl (by (repeat (first|exact zH _|apply zT));done) rfl) ?_
  refine rv0 rfl rfl rfl (y_nilCheck rfl) ?_
  refine rv0 rfl rfl rfl (y_fieldAddr (k := 3) Tryz.underlying81 rfl (n := 1) (by decide) Tryz.sizeOf3 rfl) ?_
  refine rj_store ⟨Tryz.isAgg3, Tryz.sizeOf3⟩ (wn0 rfl) rfl rfl (by (first | rfl | assumption | (apply cutV_one; assumption))) (by (repeat (first|exact zH _|apply zT));done) rfl rfl ?_
  refine rv0 rfl rfl rfl (y_nilCheck rfl) ?_
  refine rv0 rfl rfl rfl (y_fieldAddr (k := 4) Tryz.underlying81 rfl (n := 1) (by decide) Tryz.sizeOf3 rfl) ?_
  refine rj_store ⟨Tryz.isAgg3, Tryz.sizeOf3⟩ (wn0 rfl) rfl rfl (by (first | rfl | assumption | (apply cutV_one; assumption))) (by (repeat (first|exact zH _|apply zT));done) rfl rfl ?_
  refine rv0 rfl rfl rfl (y_nilCheck rfl) ?_
  refine rv0 rfl rfl rfl (y_fieldAddr (k := 6) Tryz.underlying81 rfl (n := 1) (by decide) Tryz.sizeOf3 rfl) ?_
  refine rj_store ⟨Tryz.isAgg3, Tryz.sizeOf3⟩ (wn0 rfl) rfl rfl (by (first | rfl | assumption | (apply cutV_one; assumption))) (by (repeat (first|exact zH _|apply zT));done) rfl rfl ?_
  refine rj_nil ?_
  refine hK1 _ _ _ ?_
  refine cj_env (eL 0 rfl eN) ?_
  refine cj_seq (fun K2 hK2 => ?_)
  refine cj_region ?_
  refine rv0 rfl rfl rfl (y_move rfl) ?_
  refine rv0 rfl rfl rfl (y_move rfl) ?_
  refine rv0 rfl rfl rfl (y_nilCheck rfl) ?_
  refine rv0 rfl rfl rfl (y_fieldAddr (k := 1) Tryz.underlying81 rfl (n := 1) (by decide) Tryz.sizeOf3 rfl) ?_
  first | refine rv0 rfl rfl rfl (y_load ⟨Tryz.isAgg3, Tryz.sizeOf3⟩ rfl (by (repeat (first|exact zH _|apply zT));done) rfl) ?_ | refine rv0 rfl rfl rfl (y_load_slc ⟨Tryz.isAgg3, Tryz.sizeOf3⟩ rfl (by (repeat (first|exact zH _|apply zT));done) rfl) ?_
  refine rj_makeSlice (sz := 2) (wn0 rfl) rfl Tryz.underlying79 rfl rfl rfl rfl rfl (by decide) rfl (by show 16 * _ ≤ _; omega) (by simp only [maxLen]; omega) (fun bp => ?_)
  rw [← winL_zero x.n (x.g.last + 1)]
  refine rv0 rfl rfl rfl (y_nilCheck rfl) ?_
  refine rv0 rfl rfl rfl (y_fieldAddr (k := 8) Tryz.underlying81 rfl (n := 1) (by decide) Tryz.sizeOf79 rfl) ?_
  refine rj_store ⟨Tryz.isAgg79, Tryz.sizeOf79⟩ (wn0 rfl) rfl rfl (by (first | rfl | assumption | (apply cutV_one; assumption))) (by (repeat (first|exact zH _|apply zT));done) rfl rfl ?_
  refine rj_nil ?_
  refine hK2 _ _ _ ?_
  refine cj_env (eL 0 rfl eN) ?_
  refine cj_seq (fun K3 hK3 => ?_)
  refine cj_seq (fun K4 hK4 => ?_)
  refine cj_region ?_
  refine rv0 rfl rfl rfl (y_move rfl) ?_
  refine rv0 rfl rfl rfl (y_nilCheck rfl) ?_
  refine rv0 rfl rfl rfl (y_fieldAddr (k := 8) Tryz.underlying81 rfl (n := 1) (by decide) Tryz.sizeOf79 rfl) ?_
  first | refine rv0 rfl rfl rfl (y_load ⟨Tryz.isAgg79, Tryz.sizeOf79⟩ rfl (by (repeat (first|exact zH _|apply zT));done) rfl) ?_ | refine rv0 rfl rfl rfl (y_load_slc ⟨Tryz.isAgg79, Tryz.sizeOf79⟩ rfl (by (repeat (first|exact zH _|apply zT));done) rfl) ?_
  first | refine rv0 rfl rfl rfl (y_len_sl Tryz.underlying79 rfl) ?_ | refine rv0 rfl rfl rfl (y_len_slc Tryz.underlying79 rfl (by (repeat (first|exact zH _|apply zT));done)) ?_
  refine rv0 rfl rfl rfl (y_move rfl) ?_
  refine rj_nil ?_
  refine hK4 _ _ _ ?_
  refine cj_env (eL 0 rfl (eL 28 rfl (eL 29 rfl eN))) ?_
  refine cj_block ?_
  refine cj_env (E' := (fun (x1 : Nat) => [(0, .pointer (some ⟨b.x, 0, none⟩)), (28, .int .i64 (x.n : Int)), (29, .int .i64 (x1 : Int))]) 0) (eC rfl (eC rfl (eC rfl eN))) ?_
  refine cj_sub (M := (fun (x1 : Nat) => slc 116 2 (.slice (some ⟨bp, 0, none⟩) x.n x.n) x.n (pairsV (winL x.n x1 (x.g.last + 1))) :: ndB b { v with vp := .slice (some ⟨bp, 0, none⟩) x.n x.n } x.wins :: lgN b v x :: dkB b.d v.u D :: dkS v.u D :: mpA v.vm x.votes :: outA v x :: F) 0) (by (repeat (first|exact zR _|(apply zP;focus (repeat (first|exact zH _|apply zT)))|apply zD|exact zA _ _))) ?_
  refine cj_loop (fun (x1 : Nat) => [(0, .pointer (some ⟨b.x, 0, none⟩)), (28, .int .i64 (x.n : Int)), (29, .int .i64 (x1 : Int))]) (fun (x1 : Nat) => R) (fun (x1 : Nat) => slc 116 2 (.slice (some ⟨bp, 0, none⟩) x.n x.n) x.n (pairsV (winL x.n x1 (x.g.last + 1))) :: ndB b { v with vp := .slice (some ⟨bp, 0, none⟩) x.n x.n } x.wins :: lgN b v x :: dkB b.d v.u D :: dkS v.u D :: mpA v.vm x.votes :: outA v x :: F) (fun (x1 : Nat) => x1 ≤ x.n) (fun (x1 : Nat) => x.n - x1) 0 (by simp) ?_
  rintro i hi
  try dsimp only
  refine cj_seq (fun K5 hK5 => ?_)
  refine cj_region ?_
  refine rv0 rfl rfl rfl (y_lss rfl rfl) ?_
  refine rj_nil ?_
  refine hK5 _ _ _ ?_
  refine cj_seq (fun K6 hK6 => ?_)
  refine cj_cond rfl (fun hc30 => ?_) (fun hc30 => ?_)
  ·try simp only [dT, dF, nT, nF, tF, fT] at hc30
   refine cj_skip ?_
   refine hK6 _ _ _ ?_
   refine cj_seq (fun K8 hK8 => ?_)
   refine cj_block ?_
   refine cj_seq (fun K9 hK9 => ?_)
   refine cj_region ?_
   have hin : i < x.n := by (try simp at hc30); omega
   have hwl := winL_len (Nat.le_of_lt hin) (x.g.last + 1)
   refine rv0 rfl rfl rfl (y_move rfl) ?_
   refine rv0 rfl rfl rfl (y_assign rfl) ?_
   refine rj_nil ?_
   refine hK9 _ _ _ ?_
   refine cj_mixg (L := [ndB b { v with vp := .slice (some ⟨bp, 0, none⟩) x.n x.n } x.wins, lgN b v x, slc 116 2 (.slice (some ⟨bp, 0, none⟩) x.n x.n) x.n (pairsV (winL x.n i (x.g.last + 1)))]) [0, 1, 2, 3, 4, 5, 6, 7, 8, 9, 10, 11, 12] [] [13] _ (by (repeat (first|exact zR _|(apply zP;focus (repeat (first|exact zH _|apply zT)))|apply zD|exact zA _ _))) (by kernel_rfl) (by kernel_rfl) (by kernel_rfl) rfl ?_
   refine fj_val rfl rfl rfl (wn0 rfl) (fun R1 hR1 G => (y_move rfl)) ?_
   refine fj_val rfl rfl rfl (wn0 rfl) (fun R1 hR1 G => (y_nilCheck rfl)) ?_
   refine fj_val rfl rfl rfl (wn0 rfl) (fun R1 hR1 G => (y_fieldAddr (k := 8) Tryz.underlying81 rfl (n := 1) (by decide) Tryz.sizeOf79 rfl)) ?_
   first | refine fj_val rfl rfl rfl (wn0 rfl) (fun R1 hR1 G => (y_load ⟨Tryz.isAgg79, Tryz.sizeOf79⟩ rfl (by (repeat (first|exact zH _|apply zT));done) rfl)) ?_ | refine fj_val rfl rfl rfl (wn0 rfl) (fun R1 hR1 G => (y_load_slc ⟨Tryz.isAgg79, Tryz.sizeOf79⟩ rfl (by (repeat (first|exact zH _|apply zT));done) rfl)) ?_
   refine fj_val rfl rfl rfl (wn0 rfl) (fun R1 hR1 G => (y_move rfl)) ?_
   refine fj_val rfl rfl rfl (wn0 rfl) (fun R1 hR1 G => (y_move rfl)) ?_
   refine fj_val rfl rfl rfl (wn0 rfl) (fun R1 hR1 G => (y_nilCheck rfl)) ?_
   refine fj_val rfl rfl rfl (wn0 rfl) (fun R1 hR1 G => (y_fieldAddr (k := 2) Tryz.underlying81 rfl (n := 1) (by decide) Tryz.sizeOf44 rfl)) ?_
   first | refine fj_val rfl rfl rfl (wn0 rfl) (fun R1 hR1 G => (y_load ⟨Tryz.isAgg44, Tryz.sizeOf44⟩ rfl (by (repeat (first|exact zH _|apply zT));done) rfl)) ?_ | refine fj_val rfl rfl rfl (wn0 rfl) (fun R1 hR1 G => (y_load_slc ⟨Tryz.isAgg44, Tryz.sizeOf44⟩ rfl (by (repeat (first|exact zH _|apply zT));done) rfl)) ?_
   refine fj_val rfl rfl rfl (wn0 rfl) (fun R1 hR1 G => (y_call Tryz.call19 rfl (lgLast_q b.l (some ⟨b.d, 0, none⟩) v.va x.g hg (hva.mono hR1)) (by (repeat (first|exact zN _|(apply zS;focus (repeat (first|exact zH _|apply zT)))))))) ?_
   refine fj_val rfl rfl rfl (wn0 rfl) (fun R1 hR1 G => (y_addu rfl rfl (by omega))) ?_
   refine fj_val rfl rfl rfl (wn0 rfl) (fun R1 hR1 G => (y_index_slc Tryz.underlying79 Tryz.sizeOf116 rfl rfl (by (repeat (first|exact zH _|apply zT));done) (by omega))) ?_
   refine fj_val rfl rfl rfl (wn0 rfl) (fun R1 hR1 G => (y_fieldAddr_slc (k := 0) Tryz.underlying116 rfl (m := 1) (by decide) Tryz.sizeOf31 rfl (by (repeat (first|exact zH _|apply zT));done) (by omega))) ?_
   refine fj_nil ?_
   refine xj_nil ?_
   try simp only [List.cons_append, List.nil_append, List.append_nil]
   refine rj_store_slc (ys := pairsV (winL x.n (i + 1) (x.g.last + 1))) ⟨Tryz.isAgg31, Tryz.sizeOf31⟩ (wn0 rfl) rfl rfl rfl (by (repeat (first|exact zH _|apply zT));done) (by rw [pairs_len, hwl]; simp; omega) (by rw [(pair_set _ i _ _ rfl (by omega)).1, winL_set hin]) (by omega) ?_
   refine rj_nil ?_
   refine hK8 _ _ _ ?_
   refine cj_env (eL 0 rfl (eL 28 rfl (eL 29 rfl eN))) ?_
   refine cj_region ?_
   first | refine rv0 rfl rfl rfl (y_add64 rfl rfl (by (first | omega | (dsimp only; omega) | (simp; done) | (simp; omega)))) ?_ | refine rv0 rfl rfl rfl (y_add rfl rfl) ?_
   refine rv0 rfl rfl rfl (y_move rfl) ?_
   refine rj_nil ?_
   refine ej_on (q' := roundK _ _ _ _ _ _ _) rfl ?_
   refine ej_round (i + 1) (by omega) (by omega) (eC rfl (eC rfl (eC rfl eN))) rfl (by (repeat (first|exact zR _|(apply zP;focus (repeat (first|exact zH _|apply zT)))|apply zD|exact zA _ _)))
  ·try simp only [dT, dF, nT, nF, tF, fT] at hc30
   refine cj_exit ?_
   refine hK3 _ _ _ ?_
   refine cj_env (eL 0 rfl eN) ?_
   refine cj_region ?_
   obtain rfl : i = x.n := by (try simp at hc30); omega
   have hpl : x.wins.peers.length = x.n := by simp [ND.wins]
   have hvw : NOk R { v with vp := .slice (some ⟨bp, 0, none⟩) x.n x.n } x.wins := ⟨hva, hv.out, hv.vm, rfl, hv.vo, fun h => by cases h⟩
   refine rv0 rfl rfl rfl (y_move rfl) ?_
   refine rj_turn (A := slc 116 2 (.slice (some ⟨bp, 0, none⟩) x.n x.n) x.n (pairsV (winL x.n x.n (x.g.last + 1)))) (B := prA { v with vp := .slice (some ⟨bp, 0, none⟩) x.n x.n } x.wins) (by (repeat (first|exact zH _|apply zT));done) (fun h hh => by rw [winL_all] at hh; show slc _ _ _ x.wins.peers.length _ h; rw [hpl]; exact hh) ?_
   refine rj_call (wn0 rfl) rfl Tryz.call53 rfl (entry_t b { v with vp := .slice (some ⟨bp, 0, none⟩) x.n x.n } x.wins D [] k m hk (NIn.wins (by omega) hx) hvw hpl (by simp) hD hm) (by (repeat (first|exact zN _|(apply zS;focus (repeat (first|exact zH _|apply zT)))))) (fun ch Rp Lp hRp hpp => ?_) ?_
   · obtain ⟨hF, rfl, v2, hv2, rfl⟩ := hpp
     try simp only [List.cons_append, List.nil_append]
     refine hpan _ _ _ _ ?_
     refine ej_pan _ (ndL b v2 (entryN (x.wins, D) []).2.1 (entryN (x.wins, D) []).2.2) (by first | exact Hp.le_refl _ | assumption | exact Hp.le_trans ‹_› ‹_›) rfl (by (repeat (first|exact zR _|(apply zP;focus (repeat (first|exact zH _|apply zT)))|apply zD|exact zA _ _))) ?_
     exact ⟨hF, rfl, v2, hv2, rfl⟩
   rintro r R8 L' hR8 ⟨hF, v2, hv2, rfl⟩
   try simp only [List.cons_append, List.nil_append]
   refine rj_nil ?_
   refine hend _ _ _ ?_
   apply ej_end Tryz.results64 .nil _ (ndL b v2 (entryN (x.wins, D) []).2.1 (entryN (x.wins, D) []).2.2) hR8 rfl
   case hp => exact ⟨hF, v2, hv2, rfl⟩
   case hS => (repeat (first|exact zR _|(apply zP;focus (repeat (first|exact zH _|apply zT)))|apply zD|exact zA _ _))
theorem NIn.set {k : Nat} {x : ND} (h : NIn k x) {t vt : Int} (ht : 0 ≤ t ∧ t ≤ 2305843009213693952 + (k + 1)) (hv : -1 ≤ vt ∧ vt < 9) : NIn (k + 1) { x with g := { x.g with term := t, vote := vt } } := by
  have h1 := h.le (show k ≤ k + 1 by omega)
  exact ⟨h1.idn, ⟨ht.1, by have := ht.2; show t ≤ _; omega⟩, hv, h1.base, h1.baseT, h1.state, h1.alln, h1.all, h1.commit, h1.patience, h1.peers, h1.peer, h1.votes, h1.out⟩
theorem votesF_one (i : Int) : fset (fun _ => none) i (.bool true) = votesF [i] := by
  funext k
  unfold fset votesF
  by_cases h : k = i <;> simp [h]
theorem setD_all {g : LG} {D : DK} {t vt : Int} : (g.setTermD D t vt).2.1.all = g.all := by
  unfold LG.setTermD
  repeat (first | split | rfl)
theorem NIn.stands {k : Nat} {x : ND} (h : NIn k x) : NIn k x.stands :=
  ⟨h.idn, h.term, h.vote, h.base, h.baseT, h.state, h.alln, h.all, h.commit, ⟨by show (0 : Int) ≤ 0; omega, by show (0 : Int) ≤ _; omega⟩, fun hr => absurd (show (1 : Int) = 2 from hr) (by decide), h.peer, ⟨by show [(x.id : Int)].Nodup; simp, fun i hi => by
    have : i ∈ [(x.id : Int)] := hi
    simp at this
    subst this
    have := h.idn
    exact ⟨by omega, by show (x.id : Int) < x.n; omega⟩⟩, h.out⟩
theorem setD_dk {g : LG} {D : DK} {m : Nat} (h : D.ok m) {t vt : Int} (ht : u64B t) (hv : -9223372036854775808 ≤ vt ∧ vt < 9223372036854775807) : (g.setTermD D t vt).2.2.ok (m + 44) := by
  have h0 : D.ok (m + 44) := ⟨h.1, by have := h.2.1; omega, h.2.2⟩
  unfold LG.setTermD
  split
  · exact h0
  · split
    · exact h0
    · rename_i h1 h2
      have hl := Rec.len_term ht (v := vt) ⟨by omega, hv.2⟩
      have hp := DK.put_ok h (Rec.term t vt).bytes
      have hb : (Rec.term t vt).bytes.length ≤ 44 := by unfold Rec.bytes; rw [List.length_append, be4_len]; omega
      have hq : (D.put (Rec.term t vt).bytes).2.ok (m + 44) := ⟨hp.1, by have := hp.2.1; omega, hp.2.2⟩
      split <;> exact hq
theorem stand_t {R : Hp} (b : NB) (v : NV) (x : ND) (D : DK) (k m : Nat) (hk : k ≤ 50) (hx : NIn k x) (hv : NOk R v x) (hD : D.ok m) (hm : m ≤ 800000000) :
    Tri Tryz.prog 37 [.pointer (some ⟨b.x, 0, none⟩)] R (ndL b v x D) (NRet b (standN (x, D))) (NPan b (standN (x, D))) := by
  have hg := hx.g (by omega)
  have hva := hv.va
  have hidn := hx.idn
  have hterm := hx.term
  obtain ⟨ra, hra⟩ : ∃ r, r = x.g.setTermD D (x.g.term + 1) x.id := ⟨_, rfl⟩
  have hE : standN (x, D) = bindN (mustN (x, D) ra) fun s => if s.1.n = 1 then winN (s.1.stands, s.2) else (true, (s.1.stands.askAll, s.2)) := by rw [hra]; rfl
  refine tri_of Tryz.func37 rfl Tryz.ntmps37 rfl (fun σ F Q hret hend hpan => ?_)
  try simp only [List.cons_append, List.nil_append]
  refine cj_env (eL 0 rfl eN) ?_
  refine cj_seq (fun K1 hK1 => ?_)
  refine cj_region ?_
  refine rj_box (wn0 rfl) rfl rfl rfl (fun bX => ?_)
  refine rj_nil ?_
  refine hK1 _ _ _ ?_
  refine cj_seq (fun K2 hK2 => ?_)
  refine cj_mixg (L := [ndB b v x, blk bX [.pointer (some ⟨b.x, 0, none⟩)] 30]) [0, 1, 2, 3, 4, 5, 6, 7, 8, 11, 12, 13, 14] [9, 10, 15] [16] _ (by (repeat (first|exact zR _|(apply zP;focus (repeat (first|exact zH _|apply zT)))|apply zD|exact zA _ _))) (by kernel_rfl) (by kernel_rfl) (by kernel_rfl) rfl ?_
  first | refine fj_val rfl rfl rfl (wn0 rfl) (fun R1 hR1 G => (y_load ⟨Tryz.isAgg30, Tryz.sizeOf30⟩ rfl (by (repeat (first|exact zH _|apply zT));done) rfl)) ?_ | refine fj_val rfl rfl rfl (wn0 rfl) (fun R1 hR1 G => (y_load_slc ⟨Tryz.isAgg30, Tryz.sizeOf30⟩ rfl (by (repeat (first|exact zH _|apply zT));done) rfl)) ?_
  first | refine fj_val rfl rfl rfl (wn0 rfl) (fun R1 hR1 G => (y_load ⟨Tryz.isAgg30, Tryz.sizeOf30⟩ rfl (by (repeat (first|exact zH _|apply zT));done) rfl)) ?_ | refine fj_val rfl rfl rfl (wn0 rfl) (fun R1 hR1 G => (y_load_slc ⟨Tryz.isAgg30, Tryz.sizeOf30⟩ rfl (by (repeat (first|exact zH _|apply zT));done) rfl)) ?_
  refine fj_val rfl rfl rfl (wn0 rfl) (fun R1 hR1 G => (y_nilCheck rfl)) ?_
  refine fj_val rfl rfl rfl (wn0 rfl) (fun R1 hR1 G => (y_fieldAddr (k := 2) Tryz.underlying81 rfl (n := 1) (by decide) Tryz.sizeOf44 rfl)) ?_
  first | refine fj_val rfl rfl rfl (wn0 rfl) (fun R1 hR1 G => (y_load ⟨Tryz.isAgg44, Tryz.sizeOf44⟩ rfl (by (repeat (first|exact zH _|apply zT));done) rfl)) ?_ | refine fj_val rfl rfl rfl (wn0 rfl) (fun R1 hR1 G => (y_load_slc ⟨Tryz.isAgg44, Tryz.sizeOf44⟩ rfl (by (repeat (first|exact zH _|apply zT));done) rfl)) ?_
  first | refine fj_val rfl rfl rfl (wn0 rfl) (fun R1 hR1 G => (y_load ⟨Tryz.isAgg30, Tryz.sizeOf30⟩ rfl (by (repeat (first|exact zH _|apply zT));done) rfl)) ?_ | refine fj_val rfl rfl rfl (wn0 rfl) (fun R1 hR1 G => (y_load_slc ⟨Tryz.isAgg30, Tryz.sizeOf30⟩ rfl (by (repeat (first|exact zH _|apply zT));done) rfl)) ?_
  refine fj_val rfl rfl rfl (wn0 rfl) (fun R1 hR1 G => (y_nilCheck rfl)) ?_
  refine fj_val rfl rfl rfl (wn0 rfl) (fun R1 hR1 G => (y_fieldAddr (k := 2) Tryz.underlying81 rfl (n := 1) (by decide) Tryz.sizeOf44 rfl)) ?_
  first | refine fj_val rfl rfl rfl (wn0 rfl) (fun R1 hR1 G => (y_load ⟨Tryz.isAgg44, Tryz.sizeOf44⟩ rfl (by (repeat (first|exact zH _|apply zT));done) rfl)) ?_ | refine fj_val rfl rfl rfl (wn0 rfl) (fun R1 hR1 G => (y_load_slc ⟨Tryz.isAgg44, Tryz.sizeOf44⟩ rfl (by (repeat (first|exact zH _|apply zT));done) rfl)) ?_
  first | refine fj_val rfl rfl rfl (wn0 rfl) (fun R1 hR1 G => (y_load ⟨Tryz.isAgg30, Tryz.sizeOf30⟩ rfl (by (repeat (first|exact zH _|apply zT));done) rfl)) ?_ | refine fj_val rfl rfl rfl (wn0 rfl) (fun R1 hR1 G => (y_load_slc ⟨Tryz.isAgg30, Tryz.sizeOf30⟩ rfl (by (repeat (first|exact zH _|apply zT));done) rfl)) ?_
  refine fj_val rfl rfl rfl (wn0 rfl) (fun R1 hR1 G => (y_nilCheck rfl)) ?_
  refine fj_val rfl rfl rfl (wn0 rfl) (fun R1 hR1 G => (y_fieldAddr (k := 0) Tryz.underlying81 rfl (n := 1) (by decide) Tryz.sizeOf3 rfl)) ?_
  first | refine fj_val rfl rfl rfl (wn0 rfl) (fun R1 hR1 G => (y_load ⟨Tryz.isAgg3, Tryz.sizeOf3⟩ rfl (by (repeat (first|exact zH _|apply zT));done) rfl)) ?_ | refine fj_val rfl rfl rfl (wn0 rfl) (fun R1 hR1 G => (y_load_slc ⟨Tryz.isAgg3, Tryz.sizeOf3⟩ rfl (by (repeat (first|exact zH _|apply zT));done) rfl)) ?_
  refine fj_nil ?_
  refine xj_rj rfl ?_
  try simp only [List.cons_append, List.nil_append, List.append_nil]
  refine rv0 rfl rfl rfl (y_call Tryz.call13 rfl (lgTerm_q b.l (some ⟨b.d, 0, none⟩) v.va x.g) (by (repeat (first|exact zN _|(apply zS;focus (repeat (first|exact zH _|apply zT))))))) ?_
  refine rj_xk (by (first | exact Hp.le_refl _ | assumption | exact Hp.le_trans ‹_› ‹_›)) (by (repeat (first|exact zR _|(apply zP;focus (repeat (first|exact zH _|apply zT)))|apply zD|exact zA _ _))) ?_
  refine xj_rj rfl ?_
  try simp only [List.cons_append, List.nil_append, List.append_nil]
  refine rv0 rfl rfl rfl (y_addu rfl rfl (by omega)) ?_
  refine rj_xk (by (first | exact Hp.le_refl _ | assumption | exact Hp.le_trans ‹_› ‹_›)) (by (repeat (first|exact zR _|(apply zP;focus (repeat (first|exact zH _|apply zT)))|apply zD|exact zA _ _))) ?_
  refine xj_rj rfl ?_
  try simp only [List.cons_append, List.nil_append, List.append_nil]
  refine rj_call (wn0 rfl) rfl Tryz.call40 rfl (lgSetTerm_t b.l b.d v.va v.u x.g D m (x.g.term + 1) x.id hg (by unfold u64B; omega) (by omega) (by omega) hva.one hD (by omega)) (by (repeat (first|exact zN _|(apply zS;focus (repeat (first|exact zH _|apply zT)))))) (fun _ _ _ _ h => h.elim) ?_
  rintro r R4 L' hR4 ⟨rfl, u2, rfl⟩
  rw [← hra]
  have hall : ra.2.1.all = x.g.all := by rw [hra]; exact setD_all
  try simp only [List.cons_append, List.nil_append]
  refine rj_xk (by (first | exact Hp.le_refl _ | assumption | exact Hp.le_trans ‹_› ‹_›)) (by (repeat (first|exact zR _|(apply zP;focus (repeat (first|exact zH _|apply zT)))|apply zD|exact zA _ _))) ?_
  refine xj_nil ?_
  try simp only [List.cons_append, List.nil_append, List.append_nil]
  refine rj_call (wn0 rfl) rfl Tryz.call39 rfl (must_t b (v.logd u2 v.va) x _) (by (repeat (first|exact zN _|(apply zS;focus (repeat (first|exact zH _|apply zT)))))) (fun ch Rp Lp hRp hpp => ?_) ?_
  · obtain ⟨he1, rfl, rfl⟩ := hpp
    try simp only [List.cons_append, List.nil_append]
    refine hpan _ _ _ _ ?_
    refine ej_pan _ (ndL b (v.logd u2 v.va) { x with g := ra.2.1, down := true } ra.2.2) (by first | exact Hp.le_refl _ | assumption | exact Hp.le_trans ‹_› ‹_› | exact Hp.le_trans hR4 hRp) rfl (by (repeat (first|exact zR _|(apply zP;focus (repeat (first|exact zH _|apply zT)))|apply zD|exact zA _ _))) ?_
    exact ⟨by rw [hE]; simp [bindN, mustN, he1], rfl, v.logd u2 v.va, by rw [hE]; simp only [bindN, mustN, if_neg he1]; exact hv.logd (y := { x with g := ra.2.1, down := true }) (Hp.le_trans hR4 hRp) ⟨rfl, rfl⟩ (by show FrX entE Rp ra.2.1.all v.va; rw [hall]; exact hva.mono (Hp.le_trans hR4 hRp)), by rw [hE]; simp [bindN, mustN, he1]⟩
  rintro r R5 L' hR5 ⟨he0, rfl⟩
  have hx1 : NIn (k + 1) { x with g := ra.2.1 } := by rw [hra, setD_ok (by rw [← hra]; exact he0)]; exact hx.set (by omega) (by omega)
  have hR45 := Hp.le_trans hR4 hR5
  have hv1 : NOk R5 (v.logd u2 v.va) { x with g := ra.2.1 } := hv.logd (y := { x with g := ra.2.1 }) hR45 ⟨rfl, rfl⟩ (by show FrX entE R5 ra.2.1.all v.va; rw [hall]; exact hva.mono hR45)
  try simp only [List.cons_append, List.nil_append]
  refine rj_nil ?_
  refine hK2 _ _ _ ?_
  refine cj_env (eL 1 rfl eN) ?_
  refine cj_seq (fun K3 hK3 => ?_)
  refine cj_mixg (L := [blk bX [.pointer (some ⟨b.x, 0, none⟩)] 30]) [0, 1, 2, 3, 4] [5, 6, 7, 8] [9, 10, 11] _ (by (repeat (first|exact zR _|(apply zP;focus (repeat (first|exact zH _|apply zT)))|apply zD|exact zA _ _))) (by kernel_rfl) (by kernel_rfl) (by kernel_rfl) rfl ?_
  first | refine fj_val rfl rfl rfl (wn0 rfl) (fun R1 hR1 G => (y_load ⟨Tryz.isAgg30, Tryz.sizeOf30⟩ rfl (by (repeat (first|exact zH _|apply zT));done) rfl)) ?_ | refine fj_val rfl rfl rfl (wn0 rfl) (fun R1 hR1 G => (y_load_slc ⟨Tryz.isAgg30, Tryz.sizeOf30⟩ rfl (by (repeat (first|exact zH _|apply zT));done) rfl)) ?_
  first | refine fj_val rfl rfl rfl (wn0 rfl) (fun R1 hR1 G => (y_load ⟨Tryz.isAgg30, Tryz.sizeOf30⟩ rfl (by (repeat (first|exact zH _|apply zT));done) rfl)) ?_ | refine fj_val rfl rfl rfl (wn0 rfl) (fun R1 hR1 G => (y_load_slc ⟨Tryz.isAgg30, Tryz.sizeOf30⟩ rfl (by (repeat (first|exact zH _|apply zT));done) rfl)) ?_
  first | refine fj_val rfl rfl rfl (wn0 rfl) (fun R1 hR1 G => (y_load ⟨Tryz.isAgg30, Tryz.sizeOf30⟩ rfl (by (repeat (first|exact zH _|apply zT));done) rfl)) ?_ | refine fj_val rfl rfl rfl (wn0 rfl) (fun R1 hR1 G => (y_load_slc ⟨Tryz.isAgg30, Tryz.sizeOf30⟩ rfl (by (repeat (first|exact zH _|apply zT));done) rfl)) ?_
  refine fj_val rfl rfl rfl (wn0 rfl) (fun R1 hR1 G => (y_nilCheck rfl)) ?_
  refine fj_val rfl rfl rfl (wn0 rfl) (fun R1 hR1 G => (y_fieldAddr (k := 3) Tryz.underlying81 rfl (n := 1) (by decide) Tryz.sizeOf3 rfl)) ?_
  refine fj_nil ?_
  refine xj_rj rfl ?_
  try simp only [List.cons_append, List.nil_append, List.append_nil]
  refine rj_store ⟨Tryz.isAgg3, Tryz.sizeOf3⟩ (wn0 rfl) rfl rfl (by (first | rfl | assumption | (apply cutV_one; assumption))) (by (repeat (first|exact zH _|apply zT));done) rfl rfl ?_
  refine rj_xk (by (first | exact Hp.le_refl _ | assumption | exact Hp.le_trans ‹_› ‹_›)) (by (repeat (first|exact zR _|(apply zP;focus (repeat (first|exact zH _|apply zT)))|apply zD|exact zA _ _))) ?_
  refine xj_rj rfl ?_
  try simp only [List.cons_append, List.nil_append, List.append_nil]
  refine rv0 rfl rfl rfl (y_nilCheck rfl) ?_
  refine rj_xk (by (first | exact Hp.le_refl _ | assumption | exact Hp.le_trans ‹_› ‹_›)) (by (repeat (first|exact zR _|(apply zP;focus (repeat (first|exact zH _|apply zT)))|apply zD|exact zA _ _))) ?_
  refine xj_rj rfl ?_
  try simp only [List.cons_append, List.nil_append, List.append_nil]
  refine rv0 rfl rfl rfl (y_fieldAddr (k := 4) Tryz.underlying81 rfl (n := 1) (by decide) Tryz.sizeOf3 rfl) ?_
  refine rj_xk (by (first | exact Hp.le_refl _ | assumption | exact Hp.le_trans ‹_› ‹_›)) (by (repeat (first|exact zR _|(apply zP;focus (repeat (first|exact zH _|apply zT)))|apply zD|exact zA _ _))) ?_
  refine xj_rj rfl ?_
  try simp only [List.cons_append, List.nil_append, List.append_nil]
  refine rj_store ⟨Tryz.isAgg3, Tryz.sizeOf3⟩ (wn0 rfl) rfl rfl (by (first | rfl | assumption | (apply cutV_one; assumption))) (by (repeat (first|exact zH _|apply zT));done) rfl rfl ?_
  refine rj_xk (by (first | exact Hp.le_refl _ | assumption | exact Hp.le_trans ‹_› ‹_›)) (by (repeat (first|exact zR _|(apply zP;focus (repeat (first|exact zH _|apply zT)))|apply zD|exact zA _ _))) ?_
  refine xj_nil ?_
  try simp only [List.cons_append, List.nil_append, List.append_nil]
  refine rv0 rfl rfl rfl (y_nilCheck rfl) ?_
  refine rv0 rfl rfl rfl (y_fieldAddr (k := 6) Tryz.underlying81 rfl (n := 1) (by decide) Tryz.sizeOf3 rfl) ?_
  refine rj_store ⟨Tryz.isAgg3, Tryz.sizeOf3⟩ (wn0 rfl) rfl rfl (by (first | rfl | assumption | (apply cutV_one; assumption))) (by (repeat (first|exact zH _|apply zT));done) rfl rfl ?_
  refine rj_nil ?_
  refine hK3 _ _ _ ?_
  refine cj_env (eL 1 rfl eN) ?_
  refine cj_seq (fun K4 hK4 => ?_)
  refine cj_mixg (L := [blk bX [.pointer (some ⟨b.x, 0, none⟩)] 30, ndB b (v.logd u2 v.va) { x with role := 1, leader := -1, patience := 0 }]) [0, 2, 3, 4, 5] [1, 6, 7] [8, 9, 10] _ (by (repeat (first|exact zR _|(apply zP;focus (repeat (first|exact zH _|apply zT)))|apply zD|exact zA _ _))) (by kernel_rfl) (by kernel_rfl) (by kernel_rfl) rfl ?_
  first | refine fj_val rfl rfl rfl (wn0 rfl) (fun R1 hR1 G => (y_load ⟨Tryz.isAgg30, Tryz.sizeOf30⟩ rfl (by (repeat (first|exact zH _|apply zT));done) rfl)) ?_ | refine fj_val rfl rfl rfl (wn0 rfl) (fun R1 hR1 G => (y_load_slc ⟨Tryz.isAgg30, Tryz.sizeOf30⟩ rfl (by (repeat (first|exact zH _|apply zT));done) rfl)) ?_
  first | refine fj_val rfl rfl rfl (wn0 rfl) (fun R1 hR1 G => (y_load ⟨Tryz.isAgg30, Tryz.sizeOf30⟩ rfl (by (repeat (first|exact zH _|apply zT));done) rfl)) ?_ | refine fj_val rfl rfl rfl (wn0 rfl) (fun R1 hR1 G => (y_load_slc ⟨Tryz.isAgg30, Tryz.sizeOf30⟩ rfl (by (repeat (first|exact zH _|apply zT));done) rfl)) ?_
  refine fj_val rfl rfl rfl (wn0 rfl) (fun R1 hR1 G => (y_nilCheck rfl)) ?_
  refine fj_val rfl rfl rfl (wn0 rfl) (fun R1 hR1 G => (y_fieldAddr (k := 0) Tryz.underlying81 rfl (n := 1) (by decide) Tryz.sizeOf3 rfl)) ?_
  first | refine fj_val rfl rfl rfl (wn0 rfl) (fun R1 hR1 G => (y_load ⟨Tryz.isAgg3, Tryz.sizeOf3⟩ rfl (by (repeat (first|exact zH _|apply zT));done) rfl)) ?_ | refine fj_val rfl rfl rfl (wn0 rfl) (fun R1 hR1 G => (y_load_slc ⟨Tryz.isAgg3, Tryz.sizeOf3⟩ rfl (by (repeat (first|exact zH _|apply zT));done) rfl)) ?_
  refine fj_nil ?_
  refine xj_rj rfl ?_
  try simp only [List.cons_append, List.nil_append, List.append_nil]
  refine rj_makeMap (ik := .i64) (wn0 rfl) rfl (fun bm => ?_)
  refine rj_xk (by (first | exact Hp.le_refl _ | assumption | exact Hp.le_trans ‹_› ‹_›)) (by (repeat (first|exact zR _|(apply zP;focus (repeat (first|exact zH _|apply zT)))|apply zD|exact zA _ _))) ?_
  refine xj_rj rfl ?_
  try simp only [List.cons_append, List.nil_append, List.append_nil]
  refine rj_insert Tryz.underlying42 Tryz.underlying3 (wn0 rfl) rfl rfl rfl (by (repeat (first|exact zH _|apply zT));done) ?_
  refine rj_xk (by (first | exact Hp.le_refl _ | assumption | exact Hp.le_trans ‹_› ‹_›)) (by (repeat (first|exact zR _|(apply zP;focus (repeat (first|exact zH _|apply zT)))|apply zD|exact zA _ _))) ?_
  refine xj_rj rfl ?_
  try simp only [List.cons_append, List.nil_append, List.append_nil]
  refine rv0 rfl rfl rfl (y_move rfl) ?_
  refine rj_xk (by (first | exact Hp.le_refl _ | assumption | exact Hp.le_trans ‹_› ‹_›)) (by (repeat (first|exact zR _|(apply zP;focus (repeat (first|exact zH _|apply zT)))|apply zD|exact zA _ _))) ?_
  refine xj_nil ?_
  try simp only [List.cons_append, List.nil_append, List.append_nil]
  refine rv0 rfl rfl rfl (y_nilCheck rfl) ?_
  refine rv0 rfl rfl rfl (y_fieldAddr (k := 7) Tryz.underlying81 rfl (n := 1) (by decide) Tryz.sizeOf42 rfl) ?_
  refine rj_store ⟨Tryz.isAgg42, Tryz.sizeOf42⟩ (wn0 rfl) rfl rfl (by (first | rfl | assumption | (apply cutV_one; assumption))) (by (repeat (first|exact zH _|apply zT));done) rfl rfl ?_
  refine rj_nil ?_
  refine hK4 _ _ _ ?_
  refine cj_env (eL 1 rfl eN) ?_
  refine cj_seq (fun K5 hK5 => ?_)
  refine cj_seq (fun K6 hK6 => ?_)
  refine cj_region ?_
  refine rj_turn (A := mapF bm .i64 (fset (fun _ => none) (x.id : Int) (.bool true)) (if ((fun _ => none : Int → Option Value) (x.id : Int)).isSome then 0 else 0 + 1)) (B := mpA (.map (some bm)) [(x.id : Int)]) (by (repeat (first|exact zH _|apply zT));done) (fun h hh => by rw [votesF_one] at hh; exact hh) ?_
  obtain ⟨y, hy⟩ : ∃ y, y = ND.stands { x with g := ra.2.1 } := ⟨_, rfl⟩
  obtain ⟨v2, hv2d⟩ : ∃ v2 : NV, v2 = { (v.logd u2 v.va) with vm := .map (some bm) } := ⟨_, rfl⟩
  have hy1 : NIn (k + 1) y := by rw [hy]; exact hx1.stands
  have hyv : NOk R5 v2 y := by rw [hy, hv2d]; exact ⟨hv1.va, hv1.out, rfl, hv1.vp, hv1.vo, fun _ => ⟨bm, rfl⟩⟩
  have hDk : ra.2.2.ok (m + 44) := by rw [hra]; exact setD_dk hD (by unfold u64B; omega) (by omega)
  have hgy := hy1.g (by omega)
  first | refine rv0 rfl rfl rfl (y_load ⟨Tryz.isAgg30, Tryz.sizeOf30⟩ rfl (by (repeat (first|exact zH _|apply zT));done) rfl) ?_ | refine rv0 rfl rfl rfl (y_load_slc ⟨Tryz.isAgg30, Tryz.sizeOf30⟩ rfl (by (repeat (first|exact zH _|apply zT));done) rfl) ?_
  refine rv0 rfl rfl rfl (y_nilCheck rfl) ?_
  refine rv0 rfl rfl rfl (y_fieldAddr (k := 1) Tryz.underlying81 rfl (n := 1) (by decide) Tryz.sizeOf3 rfl) ?_
  first | refine rv0 rfl rfl rfl (y_load ⟨Tryz.isAgg3, Tryz.sizeOf3⟩ rfl (by (repeat (first|exact zH _|apply zT));done) rfl) ?_ | refine rv0 rfl rfl rfl (y_load_slc ⟨Tryz.isAgg3, Tryz.sizeOf3⟩ rfl (by (repeat (first|exact zH _|apply zT));done) rfl) ?_
  refine rv0 rfl rfl rfl (y_eql rfl rfl) ?_
  refine rj_nil ?_
  refine hK6 _ _ _ ?_
  refine cj_env (eL 1 rfl (eL 42 rfl eN)) ?_
  refine cj_cond rfl (fun hc42 => ?_) (fun hc42 => ?_)
  ·have f1 : x.n = 1 := by (try simp at hc42); omega
   have hE2 : standN (x, D) = winN (y, ra.2.2) := by rw [hE, hy]; simp [bindN, mustN, he0, f1]
   refine cj_seq (fun K8 hK8 => ?_)
   refine cj_region ?_
   refine rj_turn (A := blk b.x _ 81) (B := ndB b v2 y) (by (repeat (first|exact zH _|apply zT));done) (fun h hh => by rw [hy, hv2d]; exact hh) ?_
   refine rj_turn (A := lgB b.l _ v.va ra.2.1) (B := lgN b v2 y) (by (repeat (first|exact zH _|apply zT));done) (fun h hh => by rw [hy, hv2d]; exact hh) ?_
   refine rj_turn (A := dkB b.d u2 ra.2.2) (B := dkB b.d v2.u ra.2.2) (by (repeat (first|exact zH _|apply zT));done) (fun h hh => by rw [hv2d]; exact hh) ?_
   refine rj_turn (A := dkS u2 ra.2.2) (B := dkS v2.u ra.2.2) (by (repeat (first|exact zH _|apply zT));done) (fun h hh => by rw [hv2d]; exact hh) ?_
   refine rj_turn (A := prA v x) (B := prA v2 y) (by (repeat (first|exact zH _|apply zT));done) (fun h hh => by rw [hy, hv2d]; exact hh) ?_
   refine rj_turn (A := mpA (.map (some bm)) [(x.id : Int)]) (B := mpA v2.vm y.votes) (by (repeat (first|exact zH _|apply zT));done) (fun h hh => by rw [hy, hv2d]; exact hh) ?_
   refine rj_turn (A := outA v x) (B := outA v2 y) (by (repeat (first|exact zH _|apply zT));done) (fun h hh => by rw [hy, hv2d]; exact hh) ?_
   first | refine rv0 rfl rfl rfl (y_load ⟨Tryz.isAgg30, Tryz.sizeOf30⟩ rfl (by (repeat (first|exact zH _|apply zT));done) rfl) ?_ | refine rv0 rfl rfl rfl (y_load_slc ⟨Tryz.isAgg30, Tryz.sizeOf30⟩ rfl (by (repeat (first|exact zH _|apply zT));done) rfl) ?_
   refine rj_call (wn0 rfl) rfl Tryz.call64 rfl (win_t b v2 y ra.2.2 (k + 1) (m + 44) (by omega) hy1 hyv hDk (by omega)) (by (repeat (first|exact zN _|(apply zS;focus (repeat (first|exact zH _|apply zT)))))) (fun ch Rp Lp hRp hpp => ?_) ?_
   · obtain ⟨hF, rfl, v3, hv3, rfl⟩ := hpp
     try simp only [List.cons_append, List.nil_append]
     refine hpan _ _ _ _ ?_
     refine ej_pan _ (ndL b v3 (winN (y, ra.2.2)).2.1 (winN (y, ra.2.2)).2.2) (by first | exact Hp.le_refl _ | assumption | exact Hp.le_trans ‹_› ‹_› | exact Hp.le_trans hR45 hRp) rfl (by (repeat (first|exact zR _|(apply zP;focus (repeat (first|exact zH _|apply zT)))|apply zD|exact zA _ _))) ?_
     exact ⟨by rw [hE2]; exact hF, rfl, v3, by rw [hE2]; exact hv3, by rw [hE2]⟩
   rintro r R8 L' hR8 ⟨hF, v3, hv3, rfl⟩
   try simp only [List.cons_append, List.nil_append]
   refine rj_nil ?_
   refine hK8 _ _ _ ?_
   refine cj_env eN ?_
   refine cj_ret ?_
   refine hret _ _ _ ?_
   apply ej_ret Tryz.results37 .nil _ (ndL b v3 (winN (y, ra.2.2)).2.1 (winN (y, ra.2.2)).2.2) (by exact Hp.le_trans hR45 hR8) rfl
   case hp => rw [hE2]; exact ⟨hF, v3, hv3, rfl⟩
   case hS => (repeat (first|exact zR _|(apply zP;focus (repeat (first|exact zH _|apply zT)))|apply zD|exact zA _ _))
  ·have f1 : ¬ x.n = 1 := by (try simp at hc42); omega
   have hE2 : standN (x, D) = (true, (y.askAll, ra.2.2)) := by rw [hE, hy]; simp [bindN, mustN, he0, f1]
   refine cj_skip ?_
   refine hK5 _ _ _ ?_
   refine cj_seq (fun K9 hK9 => ?_)
   refine cj_region ?_
   first | refine rv0 rfl rfl rfl (y_load ⟨Tryz.isAgg30, Tryz.sizeOf30⟩ rfl (by (repeat (first|exact zH _|apply zT));done) rfl) ?_ | refine rv0 rfl rfl rfl (y_load_slc ⟨Tryz.isAgg30, Tryz.sizeOf30⟩ rfl (by (repeat (first|exact zH _|apply zT));done) rfl) ?_
   refine rv0 rfl rfl rfl (y_nilCheck rfl) ?_
   refine rv0 rfl rfl rfl (y_fieldAddr (k := 2) Tryz.underlying81 rfl (n := 1) (by decide) Tryz.sizeOf44 rfl) ?_
   first | refine rv0 rfl rfl rfl (y_load ⟨Tryz.isAgg44, Tryz.sizeOf44⟩ rfl (by (repeat (first|exact zH _|apply zT));done) rfl) ?_ | refine rv0 rfl rfl rfl (y_load_slc ⟨Tryz.isAgg44, Tryz.sizeOf44⟩ rfl (by (repeat (first|exact zH _|apply zT));done) rfl) ?_
   refine rv0 rfl rfl rfl (y_call Tryz.call19 rfl (lgLast_q b.l (some ⟨b.d, 0, none⟩) v.va ra.2.1 (by rw [hy] at hgy; exact hgy) hv1.va) (by (repeat (first|exact zN _|(apply zS;focus (repeat (first|exact zH _|apply zT))))))) ?_
   refine rj_alloc (wn0 rfl) rfl Tryz.zeroValue31 rfl (fun bL => ?_)
   refine rj_store ⟨Tryz.isAgg31, Tryz.sizeOf31⟩ (wn0 rfl) rfl rfl (by (first | rfl | assumption | (apply cutV_one; assumption))) (by (repeat (first|exact zH _|apply zT));done) rfl rfl ?_
   refine rj_nil ?_
   refine hK9 _ _ _ ?_
   refine cj_env (eL 1 rfl (eL 2 rfl eN)) ?_
   refine cj_region ?_
   refine rj_turn (A := blk b.x _ 81) (B := ndB b v2 y) (by (repeat (first|exact zH _|apply zT));done) (fun h hh => by rw [hy, hv2d]; exact hh) ?_
   refine rj_turn (A := lgB b.l _ v.va ra.2.1) (B := lgN b v2 y) (by (repeat (first|exact zH _|apply zT));done) (fun h hh => by rw [hy, hv2d]; exact hh) ?_
   refine rj_turn (A := blk bL _ 31) (B := blk bL [.int .u64 y.g.last] 31) (by (repeat (first|exact zH _|apply zT));done) (fun h hh => by rw [hy]; exact hh) ?_
   refine rj_turn (A := outA v x) (B := outA v2 y) (by (repeat (first|exact zH _|apply zT));done) (fun h hh => by rw [hy, hv2d]; exact hh) ?_
   first | refine rv0 rfl rfl rfl (y_load ⟨Tryz.isAgg30, Tryz.sizeOf30⟩ rfl (by (repeat (first|exact zH _|apply zT));done) rfl) ?_ | refine rv0 rfl rfl rfl (y_load_slc ⟨Tryz.isAgg30, Tryz.sizeOf30⟩ rfl (by (repeat (first|exact zH _|apply zT));done) rfl) ?_
   refine rv0 rfl rfl rfl (y_makeFunc rfl rfl) ?_
   refine rj_call (wn0 rfl) rfl Tryz.call34 rfl (askAll_t b v2 y (k + 1) (by omega) hy1 hyv bX bL) (by (repeat (first|exact zN _|(apply zS;focus (repeat (first|exact zH _|apply zT)))))) (fun _ _ _ _ h => h.elim) ?_
   rintro r R8 L' hR8 ⟨vo, css, hels, hvo, rfl⟩
   try simp only [List.cons_append, List.nil_append]
   refine rj_nil ?_
   refine hend _ _ _ ?_
   have hye : y.askAll.g = y.g ∧ y.askAll.role = y.role := by unfold ND.askAll; rw [asks_eq]; exact sends_n _ _
   apply ej_end Tryz.results37 .nil _ (ndL b (v2.sent vo css) y.askAll ra.2.2) (Hp.le_trans hR45 hR8) rfl
   case hp => rw [hE2]; exact ⟨rfl, _, hyv.sent hR8 hye hels hvo, rfl⟩
   case hS => unfold ND.askAll; rw [asks_eq, hy, hv2d]; (repeat (first|exact zR _|(apply zP;focus (repeat (first|exact zH _|apply zT)))|apply zD|exact zA _ _))
end V
end Go.Proofs.YtjdbigplednihaaGreat
set_option linter.unusedSimpArgs false
set_option linter.unusedVariables false
set_option maxRecDepth 100000
namespace Go.Proofs.YtjdbigplednihaaGreat
open Go.RowKit
namespace V
set_option maxHeartbeats 4000000
theorem NIn.pat {k : Nat} {x : ND} (h : NIn k x) {p : Int} (hp : 0 ≤ p ∧ p ≤ 1000000000000 + k) : NIn k { x with patience := p } :=
  ⟨h.idn, h.term, h.vote, h.base, h.baseT, h.state, h.alln, h.all, h.commit, hp, h.peers, h.peer, h.votes, h.out⟩
theorem NOk.sends {R R' : Hp} {v : NV} {x : ND} (h : NOk R v x) (hR : R.le R') {l : List Msg} {vo : Value} {css : List (List Value)} (ho : Els msgE R' (x.sends l).out css) (hvo : vo.oneCell' = true) : NOk R' (v.sent vo css) (x.sends l) := h.sent (y := x.sends l) hR ⟨rfl, rfl⟩ ho hvo
theorem tick1_t {R : Hp} (b : NB) (v : NV) (x : ND) (D : DK) (k m bX : Nat) (hk : k ≤ 40) (hx : NIn k x) (hv : NOk R v x) (hD : D.ok m) (hm : m ≤ 800000000) :
    Tri Tryz.prog 33 [.pointer (some ⟨bX, 0, none⟩)] R (blk bX [.pointer (some ⟨b.x, 0, none⟩)] 30 :: ndL b v x D) (NRet b (tickN (x, D))) (NPan b (tickN (x, D))) := by
  have hpt := hx.patience
  have hx1 : NIn (k + 1) { x with patience := x.patience + 1 } := (hx.le (show k ≤ k + 1 by omega)).pat (by omega)
  have hx0 : NIn k { x with patience := 0 } := hx.pat (by omega)
  have hv1 : NOk R v { x with patience := x.patience + 1 } := hv.to (Hp.le_refl _) ⟨rfl, rfl, rfl⟩
  have hv0 : NOk R v { x with patience := 0 } := hv.to (Hp.le_refl _) ⟨rfl, rfl, rfl⟩
  refine tri_of Tryz.func33 rfl Tryz.ntmps33 rfl (fun σ F Q hret hend hpan => ?_)
  try simp only [List.cons_append, List.nil_append]
  refine cj_env (eL 0 rfl eN) ?_
  refine cj_seq (fun K1 hK1 => ?_)
  refine cj_region ?_
  first | refine rv0 rfl rfl rfl (y_load ⟨Tryz.isAgg30, Tryz.sizeOf30⟩ rfl (by (repeat (first|exact zH _|apply zT));done) rfl) ?_ | refine rv0 rfl rfl rfl (y_load_slc ⟨Tryz.isAgg30, Tryz.sizeOf30⟩ rfl (by (repeat (first|exact zH _|apply zT));done) rfl) ?_
  refine rv0 rfl rfl rfl (y_nilCheck rfl) ?_
  refine rv0 rfl rfl rfl (y_fieldAddr (k := 6) Tryz.underlying81 rfl (n := 1) (by decide) Tryz.sizeOf3 rfl) ?_
  first | refine rv0 rfl rfl rfl (y_load ⟨Tryz.isAgg3, Tryz.sizeOf3⟩ rfl (by (repeat (first|exact zH _|apply zT));done) rfl) ?_ | refine rv0 rfl rfl rfl (y_load_slc ⟨Tryz.isAgg3, Tryz.sizeOf3⟩ rfl (by (repeat (first|exact zH _|apply zT));done) rfl) ?_
  refine rv0 rfl rfl rfl ((y_add64 rfl rfl (by omega))) ?_
  refine rv0 rfl rfl rfl (y_nilCheck rfl) ?_
  refine rv0 rfl rfl rfl (y_fieldAddr (k := 6) Tryz.underlying81 rfl (n := 1) (by decide) Tryz.sizeOf3 rfl) ?_
  refine rj_store ⟨Tryz.isAgg3, Tryz.sizeOf3⟩ (wn0 rfl) rfl rfl (by (first | rfl | assumption | (apply cutV_one; assumption))) (by (repeat (first|exact zH _|apply zT));done) rfl rfl ?_
  refine rj_nil ?_
  refine hK1 _ _ _ ?_
  refine cj_env (eL 0 rfl eN) ?_
  refine cj_block ?_
  refine cj_seq (fun K2 hK2 => ?_)
  refine cj_region ?_
  first | refine rv0 rfl rfl rfl (y_load ⟨Tryz.isAgg30, Tryz.sizeOf30⟩ rfl (by (repeat (first|exact zH _|apply zT));done) rfl) ?_ | refine rv0 rfl rfl rfl (y_load_slc ⟨Tryz.isAgg30, Tryz.sizeOf30⟩ rfl (by (repeat (first|exact zH _|apply zT));done) rfl) ?_
  refine rv0 rfl rfl rfl (y_nilCheck rfl) ?_
  refine rv0 rfl rfl rfl (y_fieldAddr (k := 3) Tryz.underlying81 rfl (n := 1) (by decide) Tryz.sizeOf3 rfl) ?_
  first | refine rv0 rfl rfl rfl (y_load ⟨Tryz.isAgg3, Tryz.sizeOf3⟩ rfl (by (repeat (first|exact zH _|apply zT));done) rfl) ?_ | refine rv0 rfl rfl rfl (y_load_slc ⟨Tryz.isAgg3, Tryz.sizeOf3⟩ rfl (by (repeat (first|exact zH _|apply zT));done) rfl) ?_
  refine rv0 rfl rfl rfl (y_eql rfl rfl) ?_
  refine rv0 rfl rfl rfl (y_move rfl) ?_
  refine rj_part 14 rfl (fun hg14 => ?_) (fun hg14 => ?_)
  ·have f1 : x.role = 2 := by simpa using hg14
   have hp : x.peers.length = x.n := hx.peers f1
   first | refine rj_val (wn1 rfl rfl rfl rfl) rfl rfl (y_load ⟨Tryz.isAgg30, Tryz.sizeOf30⟩ rfl (by (repeat (first|exact zH _|apply zT));done) rfl) ?_ | refine rj_val (wn1 rfl rfl rfl rfl) rfl rfl (y_load_slc ⟨Tryz.isAgg30, Tryz.sizeOf30⟩ rfl (by (repeat (first|exact zH _|apply zT));done) rfl) ?_
   refine rj_val (wn1 rfl rfl rfl rfl) rfl rfl (y_nilCheck rfl) ?_
   refine rj_val (wn1 rfl rfl rfl rfl) rfl rfl (y_fieldAddr (k := 6) Tryz.underlying81 rfl (n := 1) (by decide) Tryz.sizeOf3 rfl) ?_
   first | refine rj_val (wn1 rfl rfl rfl rfl) rfl rfl (y_load ⟨Tryz.isAgg3, Tryz.sizeOf3⟩ rfl (by (repeat (first|exact zH _|apply zT));done) rfl) ?_ | refine rj_val (wn1 rfl rfl rfl rfl) rfl rfl (y_load_slc ⟨Tryz.isAgg3, Tryz.sizeOf3⟩ rfl (by (repeat (first|exact zH _|apply zT));done) rfl) ?_
   refine rj_val (wn1 rfl rfl rfl rfl) rfl rfl (y_geq rfl rfl) ?_
   refine rv0 rfl rfl rfl (y_pick_t rfl rfl) ?_
   refine rv0 rfl rfl rfl (y_assign rfl) ?_
   refine rj_nil ?_
   refine hK2 _ _ _ ?_
   refine cj_env (eL 0 rfl (eL 8 rfl eN)) ?_
   refine cj_cond rfl (fun hc8 => ?_) (fun hc8 => ?_)
   ·first | (have f2 : x.patience + 1 ≥ 3 := by (try simp at hc8); omega); have hT : tickN (x, D) = (true, (ND.feedAll { x with patience := 0 }, D)) := by (unfold tickN; rw [if_pos f1, if_pos f2]) | skip
    refine cj_seq (fun K4 hK4 => ?_)
    refine cj_region ?_
    first | refine rv0 rfl rfl rfl (y_load ⟨Tryz.isAgg30, Tryz.sizeOf30⟩ rfl (by (repeat (first|exact zH _|apply zT));done) rfl) ?_ | refine rv0 rfl rfl rfl (y_load_slc ⟨Tryz.isAgg30, Tryz.sizeOf30⟩ rfl (by (repeat (first|exact zH _|apply zT));done) rfl) ?_
    refine rv0 rfl rfl rfl (y_nilCheck rfl) ?_
    refine rv0 rfl rfl rfl (y_fieldAddr (k := 6) Tryz.underlying81 rfl (n := 1) (by decide) Tryz.sizeOf3 rfl) ?_
    refine rj_store ⟨Tryz.isAgg3, Tryz.sizeOf3⟩ (wn0 rfl) rfl rfl (by (first | rfl | assumption | (apply cutV_one; assumption))) (by (repeat (first|exact zH _|apply zT));done) rfl rfl ?_
    refine rj_nil ?_
    refine hK4 _ _ _ ?_
    refine cj_env (eL 0 rfl eN) ?_
    refine cj_region ?_
    first | refine rv0 rfl rfl rfl (y_load ⟨Tryz.isAgg30, Tryz.sizeOf30⟩ rfl (by (repeat (first|exact zH _|apply zT));done) rfl) ?_ | refine rv0 rfl rfl rfl (y_load_slc ⟨Tryz.isAgg30, Tryz.sizeOf30⟩ rfl (by (repeat (first|exact zH _|apply zT));done) rfl) ?_
    first | refine rv0 rfl rfl rfl (y_load ⟨Tryz.isAgg30, Tryz.sizeOf30⟩ rfl (by (repeat (first|exact zH _|apply zT));done) rfl) ?_ | refine rv0 rfl rfl rfl (y_load_slc ⟨Tryz.isAgg30, Tryz.sizeOf30⟩ rfl (by (repeat (first|exact zH _|apply zT));done) rfl) ?_
    refine rv0 rfl rfl rfl (y_makeFunc rfl rfl) ?_
    refine rj_call (wn0 rfl) rfl Tryz.call34 rfl (feedAll_t b v { x with patience := 0 } k (by omega) hx0 hv0 hp) (by (repeat (first|exact zN _|(apply zS;focus (repeat (first|exact zH _|apply zT)))))) (fun _ _ _ _ h => h.elim) ?_
    rintro r R7 L' hR7 ⟨vo, css, hels, hvo, rfl⟩
    rw [feedAll_eq] at hels hT ⊢
    try simp only [List.cons_append, List.nil_append]
    refine rj_nil ?_
    refine hend _ _ _ ?_
    apply ej_end Tryz.results33 .nil _ (ndL b (v.sent vo css) (ND.sends { x with patience := 0 } _) D) (by first | exact Hp.le_refl _ | assumption) rfl
    case hp => rw [hT]; exact ⟨rfl, _, hv0.sends hR7 hels hvo, rfl⟩
    case hS => (repeat (first|exact zR _|(apply zP;focus (repeat (first|exact zH _|apply zT)))|apply zD|exact zA _ _))
   ·first | (have f2 : ¬ x.patience + 1 ≥ 3 := by (try simp at hc8); omega); have hT : tickN (x, D) = (true, ({ x with patience := x.patience + 1 }, D)) := by (unfold tickN; rw [if_pos f1, if_neg f2]) | skip
    refine cj_seq (fun K5 hK5 => ?_)
    refine cj_draw (by kernel_rfl) (by kernel_rfl) ?_
    first | refine qj_val (wn0 rfl) rfl rfl (y_load ⟨Tryz.isAgg30, Tryz.sizeOf30⟩ rfl (by (repeat (first|exact zH _|apply zT));done) rfl) ?_ | refine qj_val (wn0 rfl) rfl rfl (y_load_slc ⟨Tryz.isAgg30, Tryz.sizeOf30⟩ rfl (by (repeat (first|exact zH _|apply zT));done) rfl) ?_
    refine qj_val (wn0 rfl) rfl rfl (y_nilCheck rfl) ?_
    refine qj_val (wn0 rfl) rfl rfl (y_fieldAddr (k := 3) Tryz.underlying81 rfl (n := 1) (by decide) Tryz.sizeOf3 rfl) ?_
    first | refine qj_val (wn0 rfl) rfl rfl (y_load ⟨Tryz.isAgg3, Tryz.sizeOf3⟩ rfl (by (repeat (first|exact zH _|apply zT));done) rfl) ?_ | refine qj_val (wn0 rfl) rfl rfl (y_load_slc ⟨Tryz.isAgg3, Tryz.sizeOf3⟩ rfl (by (repeat (first|exact zH _|apply zT));done) rfl) ?_
    refine qj_val (wn0 rfl) rfl rfl (y_neq rfl rfl) ?_
    refine qj_val (wn0 rfl) rfl rfl (y_move rfl) ?_
    refine qj_part 34 rfl (fun hg34 => ?_) (fun hg34 => ?_)
    ·have g1 : ¬ x.role = 2 := by simpa using hg34
     first | refine qj_val (wn1 rfl rfl rfl rfl) rfl rfl (y_load ⟨Tryz.isAgg30, Tryz.sizeOf30⟩ rfl (by (repeat (first|exact zH _|apply zT));done) rfl) ?_ | refine qj_val (wn1 rfl rfl rfl rfl) rfl rfl (y_load_slc ⟨Tryz.isAgg30, Tryz.sizeOf30⟩ rfl (by (repeat (first|exact zH _|apply zT));done) rfl) ?_
     refine qj_val (wn1 rfl rfl rfl rfl) rfl rfl (y_nilCheck rfl) ?_
     refine qj_val (wn1 rfl rfl rfl rfl) rfl rfl (y_fieldAddr (k := 6) Tryz.underlying81 rfl (n := 1) (by decide) Tryz.sizeOf3 rfl) ?_
     first | refine qj_val (wn1 rfl rfl rfl rfl) rfl rfl (y_load ⟨Tryz.isAgg3, Tryz.sizeOf3⟩ rfl (by (repeat (first|exact zH _|apply zT));done) rfl) ?_ | refine qj_val (wn1 rfl rfl rfl rfl) rfl rfl (y_load_slc ⟨Tryz.isAgg3, Tryz.sizeOf3⟩ rfl (by (repeat (first|exact zH _|apply zT));done) rfl) ?_
     first | refine qj_val (wn1 rfl rfl rfl rfl) rfl rfl (y_load ⟨Tryz.isAgg30, Tryz.sizeOf30⟩ rfl (by (repeat (first|exact zH _|apply zT));done) rfl) ?_ | refine qj_val (wn1 rfl rfl rfl rfl) rfl rfl (y_load_slc ⟨Tryz.isAgg30, Tryz.sizeOf30⟩ rfl (by (repeat (first|exact zH _|apply zT));done) rfl) ?_
     refine qj_val (wn1 rfl rfl rfl rfl) rfl rfl (y_call Tryz.call36 rfl (limit_q b v { x with patience := x.patience + 1 } (k + 1) (by omega) hx1) (by (repeat (first|exact zN _|(apply zS;focus (repeat (first|exact zH _|apply zT))))))) ?_
     refine qj_val (wn1 rfl rfl rfl rfl) rfl rfl (y_geq rfl rfl) ?_
     refine qj_val (wn0 rfl) rfl rfl (y_pick_t rfl rfl) ?_
     refine qj_val (wn0 rfl) rfl rfl (y_assign rfl) ?_
     refine qj_nil ?_
     refine hK5 _ _ _ ?_
     refine cj_env (eL 0 rfl (eL 28 rfl eN)) ?_
     refine cj_cond rfl (fun hc28 => ?_) (fun hc28 => ?_)
     ·first | (have f2 : x.patience + 1 ≥ limitI x.id x.g.term := by (try simp at hc28); omega); have hT2 : tickN (x, D) = standN ({ x with patience := x.patience + 1 }, D) := by (unfold tickN; rw [if_neg g1, if_pos f2]) | skip
      refine cj_region ?_
      first | refine rv0 rfl rfl rfl (y_load ⟨Tryz.isAgg30, Tryz.sizeOf30⟩ rfl (by (repeat (first|exact zH _|apply zT));done) rfl) ?_ | refine rv0 rfl rfl rfl (y_load_slc ⟨Tryz.isAgg30, Tryz.sizeOf30⟩ rfl (by (repeat (first|exact zH _|apply zT));done) rfl) ?_
      refine rj_call (wn0 rfl) rfl Tryz.call37 rfl (stand_t b v { x with patience := x.patience + 1 } D (k + 1) m (by omega) hx1 hv1 hD hm) (by (repeat (first|exact zN _|(apply zS;focus (repeat (first|exact zH _|apply zT)))))) (fun ch Rp Lp hRp hpp => ?_) ?_
      · obtain ⟨hF, rfl, v3, hv3, rfl⟩ := hpp
        try simp only [List.cons_append, List.nil_append]
        refine hpan _ _ _ _ ?_
        refine ej_pan _ (ndL b v3 (standN ({ x with patience := x.patience + 1 }, D)).2.1 (standN ({ x with patience := x.patience + 1 }, D)).2.2) (by first | exact Hp.le_refl _ | assumption | exact Hp.le_trans ‹_› ‹_›) rfl (by (repeat (first|exact zR _|(apply zP;focus (repeat (first|exact zH _|apply zT)))|apply zD|exact zA _ _))) ?_
        exact ⟨by rw [hT2]; exact hF, rfl, v3, by rw [hT2]; exact hv3, by rw [hT2]⟩
      rintro r R8 L' hR8 ⟨hF, v3, hv3, rfl⟩
      try simp only [List.cons_append, List.nil_append]
      refine rj_nil ?_
      refine hend _ _ _ ?_
      apply ej_end Tryz.results33 .nil _ (ndL b v3 (standN ({ x with patience := x.patience + 1 }, D)).2.1 (standN ({ x with patience := x.patience + 1 }, D)).2.2) (by first | exact Hp.le_refl _ | assumption) rfl
      case hp => rw [hT2]; exact ⟨hF, v3, hv3, rfl⟩
      case hS => (repeat (first|exact zR _|(apply zP;focus (repeat (first|exact zH _|apply zT)))|apply zD|exact zA _ _))
     ·first | (have f2 : ¬ x.patience + 1 ≥ limitI x.id x.g.term := by (try simp at hc28); omega); have hT : tickN (x, D) = (true, ({ x with patience := x.patience + 1 }, D)) := by (unfold tickN; rw [if_neg g1, if_neg f2]) | skip
      refine cj_skip ?_
      refine hend _ _ _ ?_
      apply ej_end Tryz.results33 .nil _ (ndL b v { x with patience := x.patience + 1 } D) (by first | exact Hp.le_refl _ | assumption) rfl
      case hp => rw [hT]; exact ⟨rfl, _, hv1, rfl⟩
      case hS => (repeat (first|exact zR _|(apply zP;focus (repeat (first|exact zH _|apply zT)))|apply zD|exact zA _ _))
    ·have g1 : x.role = 2 := by simpa using hg34
     first | (have hT : tickN (x, D) = (true, ({ x with patience := x.patience + 1 }, D)) := absurd g1 f1) | skip
     refine qj_skip (wn2 rfl rfl rfl rfl rfl) rfl rfl ?_
     refine qj_skip (wn2 rfl rfl rfl rfl rfl) rfl rfl ?_
     refine qj_skip (wn2 rfl rfl rfl rfl rfl) rfl rfl ?_
     refine qj_skip (wn2 rfl rfl rfl rfl rfl) rfl rfl ?_
     refine qj_skip (wn2 rfl rfl rfl rfl rfl) rfl rfl ?_
     refine qj_skip (wn2 rfl rfl rfl rfl rfl) rfl rfl ?_
     refine qj_skip (wn2 rfl rfl rfl rfl rfl) rfl rfl ?_
     refine qj_val (wn0 rfl) rfl rfl (y_pick_f rfl rfl) ?_
     refine qj_val (wn0 rfl) rfl rfl (y_assign rfl) ?_
     refine qj_nil ?_
     refine hK5 _ _ _ ?_
     refine cj_env (eL 0 rfl (eL 28 rfl eN)) ?_
     refine cj_cond_f rfl ?_
     refine cj_skip ?_
     refine hend _ _ _ ?_
     apply ej_end Tryz.results33 .nil _ (ndL b v { x with patience := x.patience + 1 } D) (by first | exact Hp.le_refl _ | assumption) rfl
     case hp => rw [hT]; exact ⟨rfl, _, hv1, rfl⟩
     case hS => (repeat (first|exact zR _|(apply zP;focus (repeat (first|exact zH _|apply zT)))|apply zD|exact zA _ _))
  ·have f1 : ¬ x.role = 2 := by simpa using hg14
   refine rj_skip (wn2 rfl rfl rfl rfl rfl) rfl rfl ?_
   refine rj_skip (wn2 rfl rfl rfl rfl rfl) rfl rfl ?_
   refine rj_skip (wn2 rfl rfl rfl rfl rfl) rfl rfl ?_
   refine rj_skip (wn2 rfl rfl rfl rfl rfl) rfl rfl ?_
   refine rj_skip (wn2 rfl rfl rfl rfl rfl) rfl rfl ?_
   refine rv0 rfl rfl rfl (y_pick_f rfl rfl) ?_
   refine rv0 rfl rfl rfl (y_assign rfl) ?_
   refine rj_nil ?_
   refine hK2 _ _ _ ?_
   refine cj_env (eL 0 rfl (eL 8 rfl eN)) ?_
   refine cj_cond_f rfl ?_
   refine cj_seq (fun K7 hK7 => ?_)
   refine cj_draw (by kernel_rfl) (by kernel_rfl) ?_
   first | refine qj_val (wn0 rfl) rfl rfl (y_load ⟨Tryz.isAgg30, Tryz.sizeOf30⟩ rfl (by (repeat (first|exact zH _|apply zT));done) rfl) ?_ | refine qj_val (wn0 rfl) rfl rfl (y_load_slc ⟨Tryz.isAgg30, Tryz.sizeOf30⟩ rfl (by (repeat (first|exact zH _|apply zT));done) rfl) ?_
   refine qj_val (wn0 rfl) rfl rfl (y_nilCheck rfl) ?_
   refine qj_val (wn0 rfl) rfl rfl (y_fieldAddr (k := 3) Tryz.underlying81 rfl (n := 1) (by decide) Tryz.sizeOf3 rfl) ?_
   first | refine qj_val (wn0 rfl) rfl rfl (y_load ⟨Tryz.isAgg3, Tryz.sizeOf3⟩ rfl (by (repeat (first|exact zH _|apply zT));done) rfl) ?_ | refine qj_val (wn0 rfl) rfl rfl (y_load_slc ⟨Tryz.isAgg3, Tryz.sizeOf3⟩ rfl (by (repeat (first|exact zH _|apply zT));done) rfl) ?_
   refine qj_val (wn0 rfl) rfl rfl (y_neq rfl rfl) ?_
   refine qj_val (wn0 rfl) rfl rfl (y_move rfl) ?_
   refine qj_part 34 rfl (fun hg34 => ?_) (fun hg34 => ?_)
   ·have g1 : ¬ x.role = 2 := by simpa using hg34
    first | refine qj_val (wn1 rfl rfl rfl rfl) rfl rfl (y_load ⟨Tryz.isAgg30, Tryz.sizeOf30⟩ rfl (by (repeat (first|exact zH _|apply zT));done) rfl) ?_ | refine qj_val (wn1 rfl rfl rfl rfl) rfl rfl (y_load_slc ⟨Tryz.isAgg30, Tryz.sizeOf30⟩ rfl (by (repeat (first|exact zH _|apply zT));done) rfl) ?_
    refine qj_val (wn1 rfl rfl rfl rfl) rfl rfl (y_nilCheck rfl) ?_
    refine qj_val (wn1 rfl rfl rfl rfl) rfl rfl (y_fieldAddr (k := 6) Tryz.underlying81 rfl (n := 1) (by decide) Tryz.sizeOf3 rfl) ?_
    first | refine qj_val (wn1 rfl rfl rfl rfl) rfl rfl (y_load ⟨Tryz.isAgg3, Tryz.sizeOf3⟩ rfl (by (repeat (first|exact zH _|apply zT));done) rfl) ?_ | refine qj_val (wn1 rfl rfl rfl rfl) rfl rfl (y_load_slc ⟨Tryz.isAgg3, Tryz.sizeOf3⟩ rfl (by (repeat (first|exact zH _|apply zT));done) rfl) ?_
    first | refine qj_val (wn1 rfl rfl rfl rfl) rfl rfl (y_load ⟨Tryz.isAgg30, Tryz.sizeOf30⟩ rfl (by (repeat (first|exact zH _|apply zT));done) rfl) ?_ | refine qj_val (wn1 rfl rfl rfl rfl) rfl rfl (y_load_slc ⟨Tryz.isAgg30, Tryz.sizeOf30⟩ rfl (by (repeat (first|exact zH _|apply zT));done) rfl) ?_
    refine qj_val (wn1 rfl rfl rfl rfl) rfl rfl (y_call Tryz.call36 rfl (limit_q b v { x with patience := x.patience + 1 } (k + 1) (by omega) hx1) (by (repeat (first|exact zN _|(apply zS;focus (repeat (first|exact zH _|apply zT))))))) ?_
    refine qj_val (wn1 rfl rfl rfl rfl) rfl rfl (y_geq rfl rfl) ?_
    refine qj_val (wn0 rfl) rfl rfl (y_pick_t rfl rfl) ?_
    refine qj_val (wn0 rfl) rfl rfl (y_assign rfl) ?_
    refine qj_nil ?_
    refine hK7 _ _ _ ?_
    refine cj_env (eL 0 rfl (eL 28 rfl eN)) ?_
    refine cj_cond rfl (fun hc28 => ?_) (fun hc28 => ?_)
    ·first | (have f2 : x.patience + 1 ≥ limitI x.id x.g.term := by (try simp at hc28); omega); have hT2 : tickN (x, D) = standN ({ x with patience := x.patience + 1 }, D) := by (unfold tickN; rw [if_neg g1, if_pos f2]) | skip
     refine cj_region ?_
     first | refine rv0 rfl rfl rfl (y_load ⟨Tryz.isAgg30, Tryz.sizeOf30⟩ rfl (by (repeat (first|exact zH _|apply zT));done) rfl) ?_ | refine rv0 rfl rfl rfl (y_load_slc ⟨Tryz.isAgg30, Tryz.sizeOf30⟩ rfl (by (repeat (first|exact zH _|apply zT));done) rfl) ?_
     refine rj_call (wn0 rfl) rfl Tryz.call37 rfl (stand_t b v { x with patience := x.patience + 1 } D (k + 1) m (by omega) hx1 hv1 hD hm) (by (repeat (first|exact zN _|(apply zS;focus (repeat (first|exact zH _|apply zT)))))) (fun ch Rp Lp hRp hpp => ?_) ?_
     · obtain ⟨hF, rfl, v3, hv3, rfl⟩ := hpp
       try simp only [List.cons_append, List.nil_append]
       refine hpan _ _ _ _ ?_
       refine ej_pan _ (ndL b v3 (standN ({ x with patience := x.patience + 1 }, D)).2.1 (standN ({ x with patience := x.patience + 1 }, D)).2.2) (by first | exact Hp.le_refl _ | assumption | exact Hp.le_trans ‹_› ‹_›) rfl (by (repeat (first|exact zR _|(apply zP;focus (repeat (first|exact zH _|apply zT)))|apply zD|exact zA _ _))) ?_
       exact ⟨by rw [hT2]; exact hF, rfl, v3, by rw [hT2]; exact hv3, by rw [hT2]⟩
     rintro r R8 L' hR8 ⟨hF, v3, hv3, rfl⟩
     try simp only [List.cons_append, List.nil_append]
     refine rj_nil ?_
     refine hend _ _ _ ?_
     apply ej_end Tryz.results33 .nil _ (ndL b v3 (standN ({ x with patience := x.patience + 1 }, D)).2.1 (standN ({ x with patience := x.patience + 1 }, D)).2.2) (by first | exact Hp.le_refl _ | assumption) rfl
     case hp => rw [hT2]; exact ⟨hF, v3, hv3, rfl⟩
     case hS => (repeat (first|exact zR _|(apply zP;focus (repeat (first|exact zH _|apply zT)))|apply zD|exact zA _ _))
    ·first | (have f2 : ¬ x.patience + 1 ≥ limitI x.id x.g.term := by (try simp at hc28); omega); have hT : tickN (x, D) = (true, ({ x with patience := x.patience + 1 }, D)) := by (unfold tickN; rw [if_neg g1, if_neg f2]) | skip
     refine cj_skip ?_
     refine hend _ _ _ ?_
     apply ej_end Tryz.results33 .nil _ (ndL b v { x with patience := x.patience + 1 } D) (by first | exact Hp.le_refl _ | assumption) rfl
     case hp => rw [hT]; exact ⟨rfl, _, hv1, rfl⟩
     case hS => (repeat (first|exact zR _|(apply zP;focus (repeat (first|exact zH _|apply zT)))|apply zD|exact zA _ _))
   ·have g1 : x.role = 2 := by simpa using hg34
    first | (have hT : tickN (x, D) = (true, ({ x with patience := x.patience + 1 }, D)) := absurd g1 f1) | skip
    refine qj_skip (wn2 rfl rfl rfl rfl rfl) rfl rfl ?_
    refine qj_skip (wn2 rfl rfl rfl rfl rfl) rfl rfl ?_
    refine qj_skip (wn2 rfl rfl rfl rfl rfl) rfl rfl ?_
    refine qj_skip (wn2 rfl rfl rfl rfl rfl) rfl rfl ?_
    refine qj_skip (wn2 rfl rfl rfl rfl rfl) rfl rfl ?_
    refine qj_skip (wn2 rfl rfl rfl rfl rfl) rfl rfl ?_
    refine qj_skip (wn2 rfl rfl rfl rfl rfl) rfl rfl ?_
    refine qj_val (wn0 rfl) rfl rfl (y_pick_f rfl rfl) ?_
    refine qj_val (wn0 rfl) rfl rfl (y_assign rfl) ?_
    refine qj_nil ?_
    refine hK7 _ _ _ ?_
    refine cj_env (eL 0 rfl (eL 28 rfl eN)) ?_
    refine cj_cond_f rfl ?_
    refine cj_skip ?_
    refine hend _ _ _ ?_
    apply ej_end Tryz.results33 .nil _ (ndL b v { x with patience := x.patience + 1 } D) (by first | exact Hp.le_refl _ | assumption) rfl
    case hp => rw [hT]; exact ⟨rfl, _, hv1, rfl⟩
    case hS => (repeat (first|exact zR _|(apply zP;focus (repeat (first|exact zH _|apply zT)))|apply zD|exact zA _ _))
structure MIn (k : Nat) (n : Nat) (m : Msg) : Prop where
  frm : 0 ≤ m.frm ∧ m.frm < n
  term : 0 ≤ m.term ∧ m.term ≤ 2305843009213693952 + k
  index : 0 ≤ m.index ∧ m.index ≤ 100000000000000
  logTerm : 0 ≤ m.logTerm ∧ m.logTerm ≤ 2305843009213693952 + k
  commit : 0 ≤ m.commit ∧ m.commit < 18446744073709551616
  es : m.es.length ≤ 20 ∧ ∀ e ∈ m.es, (0 ≤ e.1 ∧ e.1 ≤ 2305843009213693952 + k) ∧ e.2.length ≤ 100
  state : m.state.length ≤ 1000000
theorem MIn.le {k j n : Nat} {m : Msg} (h : MIn k n m) (hk : k ≤ j) : MIn j n m :=
  ⟨h.frm, ⟨h.term.1, by have := h.term.2; omega⟩, h.index, ⟨h.logTerm.1, by have := h.logTerm.2; omega⟩, h.commit, ⟨h.es.1, fun e he => ⟨⟨(h.es.2 e he).1.1, by have := (h.es.2 e he).1.2; omega⟩, (h.es.2 e he).2⟩⟩, h.state⟩
theorem asked_t {R : Hp} (b : NB) (v : NV) (x : ND) (D : DK) (m : Msg) (ve : Value) (k n : Nat) (hk : k ≤ 50) (hx : NIn k x) (hv : NOk R v x) (hm : MIn k x.n m) (hve : FrX entE R m.es ve) (hD : D.ok n) (hn : n ≤ 800000000) :
    Tri Tryz.prog 41 [.pointer (some ⟨b.x, 0, none⟩), .agg ⟨msgC m ve⟩] R (ndL b v x D) (NRet b (askedN (x, D) m)) (NPan b (askedN (x, D) m)) := by
  have hg := hx.g (by omega)
  have hva := hv.va
  have hlb := LG.last_b hg
  have hidn := hx.idn
  have hterm := hx.term
  have hob := hx.out
  have hfrm := hm.frm
  obtain ⟨ra, hra⟩ : ∃ r, r = x.g.setTermD D x.g.term m.frm := ⟨_, rfl⟩
  have hveo := hve.one
  refine tri_of Tryz.func41 rfl Tryz.ntmps41 rfl (fun σ F Q hret hend hpan => ?_)
  try simp only [List.cons_append, List.nil_append]
  refine cj_env (eL 0 rfl (eL 1 rfl eN)) ?_
  refine cj_seq (fun K1 hK1 => ?_)
  refine cj_region ?_
  refine rj_box (wn0 rfl) rfl rfl rfl (fun b3 => ?_)
  refine rj_nil ?_
  refine hK1 _ _ _ ?_
  refine cj_seq (fun K2 hK2 => ?_)
  refine cj_region ?_
  refine rv0 rfl rfl rfl (y_move rfl) ?_
  refine rv0 rfl rfl rfl (y_nilCheck rfl) ?_
  refine rv0 rfl rfl rfl (y_fieldAddr (k := 2) Tryz.underlying81 rfl (n := 1) (by decide) Tryz.sizeOf44 rfl) ?_
  first | refine rv0 rfl rfl rfl (y_load ⟨Tryz.isAgg44, Tryz.sizeOf44⟩ rfl (by (repeat (first|exact zH _|apply zT));done) rfl) ?_ | refine rv0 rfl rfl rfl (y_load_slc ⟨Tryz.isAgg44, Tryz.sizeOf44⟩ rfl (by (repeat (first|exact zH _|apply zT));done) rfl) ?_
  refine rv0 rfl rfl rfl (y_call Tryz.call19 rfl (lgLast_q b.l (some ⟨b.d, 0, none⟩) v.va x.g hg hva) (by (repeat (first|exact zN _|(apply zS;focus (repeat (first|exact zH _|apply zT))))))) ?_
  refine rv0 rfl rfl rfl (y_assign rfl) ?_
  refine rj_nil ?_
  refine hK2 _ _ _ ?_
  refine cj_env (eL 0 rfl (eL 3 rfl (eL 4 rfl eN))) ?_
  refine cj_seq (fun K3 hK3 => ?_)
  refine cj_region ?_
  refine rv0 rfl rfl rfl (y_move rfl) ?_
  refine rv0 rfl rfl rfl (y_move rfl) ?_
  refine rv0 rfl rfl rfl (y_call Tryz.call63 rfl (ndTermAt_q b v x hg hva x.g.last (by unfold u64B; omega)) (by (repeat (first|exact zN _|(apply zS;focus (repeat (first|exact zH _|apply zT))))))) ?_
  refine rv0 rfl rfl rfl (y_assign rfl) ?_
  refine rj_nil ?_
  refine hK3 _ _ _ ?_
  refine cj_env (eL 0 rfl (eL 3 rfl (eL 4 rfl (eL 5 rfl eN)))) ?_
  refine cj_seq (fun K4 hK4 => ?_)
  have hJ4 : ∀ (gd : Bool), gd = x.good m → EJ ⟨Tryz.prog, 94, σ⟩ K4 [(0, .pointer (some ⟨b.x, 0, none⟩)), (3, .pointer (some ⟨b3, 0, none⟩)), (6, .bool gd)] R (blk b3 (msgC m ve) 48 :: ndB b v x :: lgN b v x :: dkB b.d v.u D :: dkS v.u D :: prA v x :: mpA v.vm x.votes :: outA v x :: F) := by
   rintro gd hgd
   try dsimp only
   refine hK4 _ _ _ ?_
   refine cj_seq (fun K5 hK5 => ?_)
   have hJ5 : ∀ (fr : Bool), fr = (decide (x.g.vote = -1) || decide (x.g.vote = m.frm)) → EJ ⟨Tryz.prog, 94, σ⟩ K5 [(0, .pointer (some ⟨b.x, 0, none⟩)), (3, .pointer (some ⟨b3, 0, none⟩)), (6, .bool gd), (7, .bool fr)] R (blk b3 (msgC m ve) 48 :: ndB b v x :: lgN b v x :: dkB b.d v.u D :: dkS v.u D :: prA v x :: mpA v.vm x.votes :: outA v x :: F) := by
    rintro fr hfr
    try dsimp only
    refine hK5 _ _ _ ?_
    refine cj_seq (fun K6 hK6 => ?_)
    have hJ6 : ∀ (gr : Bool), gr = x.grants m → EJ ⟨Tryz.prog, 94, σ⟩ K6 [(0, .pointer (some ⟨b.x, 0, none⟩)), (3, .pointer (some ⟨b3, 0, none⟩)), (8, .bool gr)] R (blk b3 (msgC m ve) 48 :: ndB b v x :: lgN b v x :: dkB b.d v.u D :: dkS v.u D :: prA v x :: mpA v.vm x.votes :: outA v x :: F) := by
     rintro gr hgr
     try dsimp only
     refine hK6 _ _ _ ?_
     refine cj_seq (fun K7 hK7 => ?_)
     have hJ9 : ∀ (x9 : ND × NV × DK × Hp), NIn (k + 1) x9.1 ∧ NOk x9.2.2.2 x9.2.1 x9.1 ∧ R.le x9.2.2.2 ∧ askedN (x, D) m = (true, (x9.1.send (ND.voteMsg m gr), x9.2.2.1)) → EJ ⟨Tryz.prog, 94, σ⟩ K7 [(0, .pointer (some ⟨b.x, 0, none⟩)), (3, .pointer (some ⟨b3, 0, none⟩)), (8, .bool gr)] x9.2.2.2 (blk b3 (msgC m ve) 48 :: ndB b x9.2.1 x9.1 :: lgN b x9.2.1 x9.1 :: dkB b.d x9.2.1.u x9.2.2.1 :: dkS x9.2.1.u x9.2.2.1 :: prA x9.2.1 x9.1 :: mpA x9.2.1.vm x9.1.votes :: outA x9.2.1 x9.1 :: F) := by
      rintro ⟨y, v2, D2, R2⟩ ⟨hy, hv2, hR2, hF⟩
      try dsimp only
      dsimp only at hy hv2 hR2 hF
      have hyo := hy.out
      refine hK7 _ _ _ ?_
      refine cj_region ?_
      refine rv0 rfl rfl rfl (y_move rfl) ?_
      refine rv0 rfl rfl rfl (y_fieldAddr (k := 1) Tryz.underlying48 rfl (n := 1) (by decide) Tryz.sizeOf3 rfl) ?_
      first | refine rv0 rfl rfl rfl (y_load ⟨Tryz.isAgg3, Tryz.sizeOf3⟩ rfl (by (repeat (first|exact zH _|apply zT));done) rfl) ?_ | refine rv0 rfl rfl rfl (y_load_slc ⟨Tryz.isAgg3, Tryz.sizeOf3⟩ rfl (by (repeat (first|exact zH _|apply zT));done) rfl) ?_
      refine rv0 rfl rfl rfl (y_move rfl) ?_
      refine rv0 rfl rfl rfl (y_build (cells := [_, _, _, _, _, _, _, _, _, _]) [(0, 1), (1, 1), (2, 1), (3, 1), (4, 1), (5, 1), (6, 1), (7, 1), (8, 1), (9, 1)] Tryz.underlying48 Tryz.zeroValue48 (fun _ => rfl) rfl rfl) ?_
      refine rj_call (wn0 rfl) rfl Tryz.call62 rfl (send_t b v2 y (ND.voteMsg m gr) (.slice none 0 0) hv2.out hv2.vo (by omega) FrX.nil) (by (repeat (first|exact zN _|(apply zS;focus (repeat (first|exact zH _|apply zT)))))) (fun _ _ _ _ h => h.elim) ?_
      rintro r R6 L' hR6 ⟨vo, css, hels, hvo2, rfl⟩
      try simp only [List.cons_append, List.nil_append]
      refine rj_nil ?_
      refine hend _ _ _ ?_
      apply ej_end Tryz.results41 .nil _ (ndL b (v2.sent vo css) (y.send (ND.voteMsg m gr)) D2) (Hp.le_trans hR2 hR6) rfl
      case hp => rw [hF]; exact ⟨rfl, _, hv2.sent (y := y.send (ND.voteMsg m gr)) hR6 ⟨rfl, rfl⟩ hels hvo2, rfl⟩
      case hS => (repeat (first|exact zR _|(apply zP;focus (repeat (first|exact zH _|apply zT)))|apply zD|exact zA _ _))
     refine cj_seq (fun K8 hK8 => ?_)
     refine cj_region ?_
     refine rv0 rfl rfl rfl (y_move rfl) ?_
     refine rj_nil ?_
     refine hK8 _ _ _ ?_
     refine cj_cond rfl (fun hc70 => ?_) (fun hc70 => ?_)
     ·have g1 : gr = true := hc70
      refine cj_seq (fun K10 hK10 => ?_)
      refine cj_mixg (L := [ndB b v x, blk b3 (msgC m ve) 48]) [0, 1, 2, 3, 4, 5, 6, 7, 8, 10, 11] [9, 12] [13] _ (by (repeat (first|exact zR _|(apply zP;focus (repeat (first|exact zH _|apply zT)))|apply zD|exact zA _ _))) (by kernel_rfl) (by kernel_rfl) (by kernel_rfl) rfl ?_
      refine fj_val rfl rfl rfl (wn0 rfl) (fun R1 hR1 G => (y_move rfl)) ?_
      refine fj_val rfl rfl rfl (wn0 rfl) (fun R1 hR1 G => (y_move rfl)) ?_
      refine fj_val rfl rfl rfl (wn0 rfl) (fun R1 hR1 G => (y_nilCheck rfl)) ?_
      refine fj_val rfl rfl rfl (wn0 rfl) (fun R1 hR1 G => (y_fieldAddr (k := 2) Tryz.underlying81 rfl (n := 1) (by decide) Tryz.sizeOf44 rfl)) ?_
      first | refine fj_val rfl rfl rfl (wn0 rfl) (fun R1 hR1 G => (y_load ⟨Tryz.isAgg44, Tryz.sizeOf44⟩ rfl (by (repeat (first|exact zH _|apply zT));done) rfl)) ?_ | refine fj_val rfl rfl rfl (wn0 rfl) (fun R1 hR1 G => (y_load_slc ⟨Tryz.isAgg44, Tryz.sizeOf44⟩ rfl (by (repeat (first|exact zH _|apply zT));done) rfl)) ?_
      refine fj_val rfl rfl rfl (wn0 rfl) (fun R1 hR1 G => (y_move rfl)) ?_
      refine fj_val rfl rfl rfl (wn0 rfl) (fun R1 hR1 G => (y_nilCheck rfl)) ?_
      refine fj_val rfl rfl rfl (wn0 rfl) (fun R1 hR1 G => (y_fieldAddr (k := 2) Tryz.underlying81 rfl (n := 1) (by decide) Tryz.sizeOf44 rfl)) ?_
      first | refine fj_val rfl rfl rfl (wn0 rfl) (fun R1 hR1 G => (y_load ⟨Tryz.isAgg44, Tryz.sizeOf44⟩ rfl (by (repeat (first|exact zH _|apply zT));done) rfl)) ?_ | refine fj_val rfl rfl rfl (wn0 rfl) (fun R1 hR1 G => (y_load_slc ⟨Tryz.isAgg44, Tryz.sizeOf44⟩ rfl (by (repeat (first|exact zH _|apply zT));done) rfl)) ?_
      refine fj_val rfl rfl rfl (wn0 rfl) (fun R1 hR1 G => (y_fieldAddr (k := 1) Tryz.underlying48 rfl (n := 1) (by decide) Tryz.sizeOf3 rfl)) ?_
      first | refine fj_val rfl rfl rfl (wn0 rfl) (fun R1 hR1 G => (y_load ⟨Tryz.isAgg3, Tryz.sizeOf3⟩ rfl (by (repeat (first|exact zH _|apply zT));done) rfl)) ?_ | refine fj_val rfl rfl rfl (wn0 rfl) (fun R1 hR1 G => (y_load_slc ⟨Tryz.isAgg3, Tryz.sizeOf3⟩ rfl (by (repeat (first|exact zH _|apply zT));done) rfl)) ?_
      refine fj_nil ?_
      refine xj_rj rfl ?_
      try simp only [List.cons_append, List.nil_append, List.append_nil]
      refine rv0 rfl rfl rfl (y_call Tryz.call13 rfl (lgTerm_q b.l (some ⟨b.d, 0, none⟩) v.va x.g) (by (repeat (first|exact zN _|(apply zS;focus (repeat (first|exact zH _|apply zT))))))) ?_
      refine rj_xk (by (first | exact Hp.le_refl _ | assumption | exact Hp.le_trans ‹_› ‹_›)) (by (repeat (first|exact zR _|(apply zP;focus (repeat (first|exact zH _|apply zT)))|apply zD|exact zA _ _))) ?_
      refine xj_rj rfl ?_
      try simp only [List.cons_append, List.nil_append, List.append_nil]
      refine rj_call (wn0 rfl) rfl Tryz.call40 rfl (lgSetTerm_t b.l b.d v.va v.u x.g D n x.g.term m.frm hg (by unfold u64B; omega) (by omega) (by omega) hva.one hD (by omega)) (by (repeat (first|exact zN _|(apply zS;focus (repeat (first|exact zH _|apply zT)))))) (fun _ _ _ _ h => h.elim) ?_
      rintro r R4 L' hR4 ⟨rfl, u2, rfl⟩
      rw [← hra]
      have hall : ra.2.1.all = x.g.all := by rw [hra]; exact setD_all
      have hAs : askedN (x, D) m = bindN (mustN (x, D) ra) fun s => (true, ({ s.1 with patience := 0 }.send (ND.voteMsg m true), s.2)) := by unfold askedN; rw [if_pos (by rw [← hgr]; exact g1), hra]
      try simp only [List.cons_append, List.nil_append]
      refine rj_xk (by (first | exact Hp.le_refl _ | assumption | exact Hp.le_trans ‹_› ‹_›)) (by (repeat (first|exact zR _|(apply zP;focus (repeat (first|exact zH _|apply zT)))|apply zD|exact zA _ _))) ?_
      refine xj_nil ?_
      try simp only [List.cons_append, List.nil_append, List.append_nil]
      refine rj_call (wn0 rfl) rfl Tryz.call39 rfl (must_t b (v.logd u2 v.va) x _) (by (repeat (first|exact zN _|(apply zS;focus (repeat (first|exact zH _|apply zT)))))) (fun ch Rp Lp hRp hpp => ?_) ?_
      · obtain ⟨he1, rfl, rfl⟩ := hpp
        try simp only [List.cons_append, List.nil_append]
        refine hpan _ _ _ _ ?_
        refine ej_pan _ (ndL b (v.logd u2 v.va) { x with g := ra.2.1, down := true } ra.2.2) (by first | exact Hp.le_refl _ | assumption | exact Hp.le_trans ‹_› ‹_› | exact Hp.le_trans hR4 hRp) rfl (by (repeat (first|exact zR _|(apply zP;focus (repeat (first|exact zH _|apply zT)))|apply zD|exact zA _ _))) ?_
        exact ⟨by rw [hAs]; simp [bindN, mustN, he1], rfl, v.logd u2 v.va, by rw [hAs]; simp only [bindN, mustN, if_neg he1]; exact hv.logd (y := { x with g := ra.2.1, down := true }) (Hp.le_trans hR4 hRp) ⟨rfl, rfl⟩ (by show FrX entE Rp ra.2.1.all v.va; rw [hall]; exact hva.mono (Hp.le_trans hR4 hRp)), by rw [hAs]; simp [bindN, mustN, he1]⟩
      rintro r R5 L' hR5 ⟨he0, rfl⟩
      have hx1 : NIn (k + 1) { x with g := ra.2.1, patience := 0 } := by rw [hra, setD_ok (by rw [← hra]; exact he0)]; exact (hx.set (t := x.g.term) (vt := m.frm) (by omega) (by omega)).pat (p := 0) (by omega)
      have hR45 := Hp.le_trans hR4 hR5
      have hv1 : NOk R5 (v.logd u2 v.va) { x with g := ra.2.1, patience := 0 } := hv.logd (y := { x with g := ra.2.1, patience := 0 }) hR45 ⟨rfl, rfl⟩ (by show FrX entE R5 ra.2.1.all v.va; rw [hall]; exact hva.mono hR45)
      try simp only [List.cons_append, List.nil_append]
      refine rj_nil ?_
      refine hK10 _ _ _ ?_
      refine cj_env (eL 0 rfl (eL 3 rfl (eL 8 rfl eN))) ?_
      refine cj_region ?_
      refine rv0 rfl rfl rfl (y_move rfl) ?_
      refine rv0 rfl rfl rfl (y_nilCheck rfl) ?_
      refine rv0 rfl rfl rfl (y_fieldAddr (k := 6) Tryz.underlying81 rfl (n := 1) (by decide) Tryz.sizeOf3 rfl) ?_
      refine rj_store ⟨Tryz.isAgg3, Tryz.sizeOf3⟩ (wn0 rfl) rfl rfl (by (first | rfl | assumption | (apply cutV_one; assumption))) (by (repeat (first|exact zH _|apply zT));done) rfl rfl ?_
      refine rj_nil ?_
      refine ej_join hJ9 (({ x with g := ra.2.1, patience := 0 }, v.logd u2 v.va, ra.2.2, R5)) (⟨hx1, hv1, hR45, by rw [hAs, g1]; simp [bindN, mustN, he0]⟩) (eC rfl (eC rfl (eC rfl eN))) rfl (by (repeat (first|exact zR _|(apply zP;focus (repeat (first|exact zH _|apply zT)))|apply zD|exact zA _ _)))
     ·have g1 : gr = false := by simpa using hc70
      refine cj_skip ?_
      refine ej_join hJ9 ((x, v, D, R)) (⟨hx.le (by omega), hv, Hp.le_refl _, by unfold askedN; rw [if_neg (by rw [← hgr, g1]; simp), g1]⟩) (eC rfl (eC rfl (eC rfl eN))) rfl (by (repeat (first|exact zR _|(apply zP;focus (repeat (first|exact zH _|apply zT)))|apply zD|exact zA _ _)))
    refine cj_draw (by kernel_rfl) (by kernel_rfl) ?_
    refine qj_val (wn0 rfl) rfl rfl (y_fieldAddr (k := 3) Tryz.underlying48 rfl (n := 1) (by decide) Tryz.sizeOf31 rfl) ?_
    first | refine qj_val (wn0 rfl) rfl rfl (y_load ⟨Tryz.isAgg31, Tryz.sizeOf31⟩ rfl (by (repeat (first|exact zH _|apply zT));done) rfl) ?_ | refine qj_val (wn0 rfl) rfl rfl (y_load_slc ⟨Tryz.isAgg31, Tryz.sizeOf31⟩ rfl (by (repeat (first|exact zH _|apply zT));done) rfl) ?_
    refine qj_val (wn0 rfl) rfl rfl (y_move rfl) ?_
    refine qj_val (wn0 rfl) rfl rfl (y_nilCheck rfl) ?_
    refine qj_val (wn0 rfl) rfl rfl (y_fieldAddr (k := 2) Tryz.underlying81 rfl (n := 1) (by decide) Tryz.sizeOf44 rfl) ?_
    first | refine qj_val (wn0 rfl) rfl rfl (y_load ⟨Tryz.isAgg44, Tryz.sizeOf44⟩ rfl (by (repeat (first|exact zH _|apply zT));done) rfl) ?_ | refine qj_val (wn0 rfl) rfl rfl (y_load_slc ⟨Tryz.isAgg44, Tryz.sizeOf44⟩ rfl (by (repeat (first|exact zH _|apply zT));done) rfl) ?_
    refine qj_val (wn0 rfl) rfl rfl (y_call Tryz.call13 rfl (lgTerm_q b.l (some ⟨b.d, 0, none⟩) v.va x.g) (by (repeat (first|exact zN _|(apply zS;focus (repeat (first|exact zH _|apply zT))))))) ?_
    refine qj_val (wn0 rfl) rfl rfl (y_eql rfl rfl) ?_
    refine qj_val (wn0 rfl) rfl rfl (y_move rfl) ?_
    refine qj_part 57 rfl (fun hg57 => ?_) (fun hg57 => ?_)
    ·have f6 : m.term = x.g.term := by simpa using hg57
     refine qj_val (wn1 rfl rfl rfl rfl) rfl rfl (y_move rfl) ?_
     refine qj_val (wn1 rfl rfl rfl rfl) rfl rfl (y_nilCheck rfl) ?_
     refine qj_val (wn1 rfl rfl rfl rfl) rfl rfl (y_fieldAddr (k := 3) Tryz.underlying81 rfl (n := 1) (by decide) Tryz.sizeOf3 rfl) ?_
     first | refine qj_val (wn1 rfl rfl rfl rfl) rfl rfl (y_load ⟨Tryz.isAgg3, Tryz.sizeOf3⟩ rfl (by (repeat (first|exact zH _|apply zT));done) rfl) ?_ | refine qj_val (wn1 rfl rfl rfl rfl) rfl rfl (y_load_slc ⟨Tryz.isAgg3, Tryz.sizeOf3⟩ rfl (by (repeat (first|exact zH _|apply zT));done) rfl) ?_
     refine qj_val (wn1 rfl rfl rfl rfl) rfl rfl (y_eql rfl rfl) ?_
     refine qj_val (wn0 rfl) rfl rfl (y_pick_t rfl rfl) ?_
     refine qj_val (wn0 rfl) rfl rfl (y_move rfl) ?_
     refine qj_part 64 rfl (fun hg64 => ?_) (fun hg64 => ?_)
     ·first|(have f7 : x.role = 0 := by simpa using hg64)|skip
      refine qj_val (wn1 rfl rfl rfl rfl) rfl rfl (y_move rfl) ?_
      refine qj_val (wn0 rfl) rfl rfl (y_pick_t rfl rfl) ?_
      refine qj_val (wn0 rfl) rfl rfl (y_move rfl) ?_
      refine qj_part 67 rfl (fun hg67 => ?_) (fun hg67 => ?_)
      ·first|(have f8 : fr = true := by simpa using hg67)|skip
       refine qj_val (wn1 rfl rfl rfl rfl) rfl rfl (y_move rfl) ?_
       refine qj_val (wn0 rfl) rfl rfl (y_pick_t rfl rfl) ?_
       refine qj_val (wn0 rfl) rfl rfl (y_assign rfl) ?_
       refine qj_nil ?_
       refine ej_join hJ6 (_) (by unfold ND.grants; rw [← hgd, ← hfr]; first|(simp [f6, f7, f8]; done)|(simp [f6, f7]; done)|(simp [f6]; done)) (eC rfl (eC rfl (eC rfl eN))) rfl (by (repeat (first|exact zR _|(apply zP;focus (repeat (first|exact zH _|apply zT)))|apply zD|exact zA _ _)))
      ·first|(have f8 : fr = false := by simpa using hg67)|skip
       refine qj_skip (wn2 rfl rfl rfl rfl rfl) rfl rfl ?_
       refine qj_val (wn0 rfl) rfl rfl (y_pick_f rfl rfl) ?_
       refine qj_val (wn0 rfl) rfl rfl (y_assign rfl) ?_
       refine qj_nil ?_
       refine ej_join hJ6 (_) (by unfold ND.grants; rw [← hgd, ← hfr]; first|(simp [f6, f7, f8]; done)|(simp [f6, f7]; done)|(simp [f6]; done)) (eC rfl (eC rfl (eC rfl eN))) rfl (by (repeat (first|exact zR _|(apply zP;focus (repeat (first|exact zH _|apply zT)))|apply zD|exact zA _ _)))
     ·first|(have f7 : ¬ x.role = 0 := by simpa using hg64)|skip
      refine qj_skip (wn2 rfl rfl rfl rfl rfl) rfl rfl ?_
      refine qj_val (wn0 rfl) rfl rfl (y_pick_f rfl rfl) ?_
      refine qj_val (wn0 rfl) rfl rfl (y_move rfl) ?_
      refine qj_skip (wn2 rfl rfl rfl rfl rfl) rfl rfl ?_
      refine qj_val (wn0 rfl) rfl rfl (y_pick_f rfl rfl) ?_
      refine qj_val (wn0 rfl) rfl rfl (y_assign rfl) ?_
      refine qj_nil ?_
      refine ej_join hJ6 (_) (by unfold ND.grants; rw [← hgd, ← hfr]; first|(simp [f6, f7, f8]; done)|(simp [f6, f7]; done)|(simp [f6]; done)) (eC rfl (eC rfl (eC rfl eN))) rfl (by (repeat (first|exact zR _|(apply zP;focus (repeat (first|exact zH _|apply zT)))|apply zD|exact zA _ _)))
    ·have f6 : ¬ m.term = x.g.term := by simpa using hg57
     refine qj_skip (wn2 rfl rfl rfl rfl rfl) rfl rfl ?_
     refine qj_skip (wn2 rfl rfl rfl rfl rfl) rfl rfl ?_
     refine qj_skip (wn2 rfl rfl rfl rfl rfl) rfl rfl ?_
     refine qj_skip (wn2 rfl rfl rfl rfl rfl) rfl rfl ?_
     refine qj_skip (wn2 rfl rfl rfl rfl rfl) rfl rfl ?_
     refine qj_val (wn0 rfl) rfl rfl (y_pick_f rfl rfl) ?_
     refine qj_val (wn0 rfl) rfl rfl (y_move rfl) ?_
     refine qj_skip (wn2 rfl rfl rfl rfl rfl) rfl rfl ?_
     refine qj_val (wn0 rfl) rfl rfl (y_pick_f rfl rfl) ?_
     refine qj_val (wn0 rfl) rfl rfl (y_move rfl) ?_
     refine qj_skip (wn2 rfl rfl rfl rfl rfl) rfl rfl ?_
     refine qj_val (wn0 rfl) rfl rfl (y_pick_f rfl rfl) ?_
     refine qj_val (wn0 rfl) rfl rfl (y_assign rfl) ?_
     refine qj_nil ?_
     refine ej_join hJ6 (_) (by unfold ND.grants; rw [← hgd, ← hfr]; first|(simp [f6, f7, f8]; done)|(simp [f6, f7]; done)|(simp [f6]; done)) (eC rfl (eC rfl (eC rfl eN))) rfl (by (repeat (first|exact zR _|(apply zP;focus (repeat (first|exact zH _|apply zT)))|apply zD|exact zA _ _)))
   refine cj_draw (by kernel_rfl) (by kernel_rfl) ?_
   refine qj_val (wn0 rfl) rfl rfl (y_move rfl) ?_
   refine qj_val (wn0 rfl) rfl rfl (y_nilCheck rfl) ?_
   refine qj_val (wn0 rfl) rfl rfl (y_fieldAddr (k := 2) Tryz.underlying81 rfl (n := 1) (by decide) Tryz.sizeOf44 rfl) ?_
   first | refine qj_val (wn0 rfl) rfl rfl (y_load ⟨Tryz.isAgg44, Tryz.sizeOf44⟩ rfl (by (repeat (first|exact zH _|apply zT));done) rfl) ?_ | refine qj_val (wn0 rfl) rfl rfl (y_load_slc ⟨Tryz.isAgg44, Tryz.sizeOf44⟩ rfl (by (repeat (first|exact zH _|apply zT));done) rfl) ?_
   refine qj_val (wn0 rfl) rfl rfl (y_call Tryz.call14 rfl (lgVote_q b.l (some ⟨b.d, 0, none⟩) v.va x.g) (by (repeat (first|exact zN _|(apply zS;focus (repeat (first|exact zH _|apply zT))))))) ?_
   refine qj_val (wn0 rfl) rfl rfl (y_eql rfl rfl) ?_
   refine qj_val (wn0 rfl) rfl rfl (y_move rfl) ?_
   refine qj_part 39 rfl (fun hg39 => ?_) (fun hg39 => ?_)
   ·have f5 : x.g.vote = -1 := by simpa using hg39
    refine qj_skip (wn2 rfl rfl rfl rfl rfl) rfl rfl ?_
    refine qj_skip (wn2 rfl rfl rfl rfl rfl) rfl rfl ?_
    refine qj_skip (wn2 rfl rfl rfl rfl rfl) rfl rfl ?_
    refine qj_skip (wn2 rfl rfl rfl rfl rfl) rfl rfl ?_
    refine qj_skip (wn2 rfl rfl rfl rfl rfl) rfl rfl ?_
    refine qj_skip (wn2 rfl rfl rfl rfl rfl) rfl rfl ?_
    refine qj_skip (wn2 rfl rfl rfl rfl rfl) rfl rfl ?_
    refine qj_skip (wn2 rfl rfl rfl rfl rfl) rfl rfl ?_
    refine qj_val (wn0 rfl) rfl rfl (y_pick_t rfl rfl) ?_
    refine qj_val (wn0 rfl) rfl rfl (y_assign rfl) ?_
    refine qj_nil ?_
    refine ej_join hJ5 (_) (by simp [f5]) (eC rfl (eC rfl (eC rfl (eC rfl eN)))) rfl (by (repeat (first|exact zR _|(apply zP;focus (repeat (first|exact zH _|apply zT)))|apply zD|exact zA _ _)))
   ·have f5 : ¬ x.g.vote = -1 := by simpa using hg39
    refine qj_val (wn1 rfl rfl rfl rfl) rfl rfl (y_move rfl) ?_
    refine qj_val (wn1 rfl rfl rfl rfl) rfl rfl (y_nilCheck rfl) ?_
    refine qj_val (wn1 rfl rfl rfl rfl) rfl rfl (y_fieldAddr (k := 2) Tryz.underlying81 rfl (n := 1) (by decide) Tryz.sizeOf44 rfl) ?_
    first | refine qj_val (wn1 rfl rfl rfl rfl) rfl rfl (y_load ⟨Tryz.isAgg44, Tryz.sizeOf44⟩ rfl (by (repeat (first|exact zH _|apply zT));done) rfl) ?_ | refine qj_val (wn1 rfl rfl rfl rfl) rfl rfl (y_load_slc ⟨Tryz.isAgg44, Tryz.sizeOf44⟩ rfl (by (repeat (first|exact zH _|apply zT));done) rfl) ?_
    refine qj_val (wn1 rfl rfl rfl rfl) rfl rfl (y_call Tryz.call14 rfl (lgVote_q b.l (some ⟨b.d, 0, none⟩) v.va x.g) (by (repeat (first|exact zN _|(apply zS;focus (repeat (first|exact zH _|apply zT))))))) ?_
    refine qj_val (wn1 rfl rfl rfl rfl) rfl rfl (y_fieldAddr (k := 1) Tryz.underlying48 rfl (n := 1) (by decide) Tryz.sizeOf3 rfl) ?_
    first | refine qj_val (wn1 rfl rfl rfl rfl) rfl rfl (y_load ⟨Tryz.isAgg3, Tryz.sizeOf3⟩ rfl (by (repeat (first|exact zH _|apply zT));done) rfl) ?_ | refine qj_val (wn1 rfl rfl rfl rfl) rfl rfl (y_load_slc ⟨Tryz.isAgg3, Tryz.sizeOf3⟩ rfl (by (repeat (first|exact zH _|apply zT));done) rfl) ?_
    refine qj_val (wn1 rfl rfl rfl rfl) rfl rfl (y_eql rfl rfl) ?_
    refine qj_val (wn0 rfl) rfl rfl (y_pick_f rfl rfl) ?_
    refine qj_val (wn0 rfl) rfl rfl (y_assign rfl) ?_
    refine qj_nil ?_
    refine ej_join hJ5 (_) (by simp [f5]) (eC rfl (eC rfl (eC rfl (eC rfl eN)))) rfl (by (repeat (first|exact zR _|(apply zP;focus (repeat (first|exact zH _|apply zT)))|apply zD|exact zA _ _)))
  refine cj_region ?_
  refine rv0 rfl rfl rfl (y_fieldAddr (k := 5) Tryz.underlying48 rfl (n := 1) (by decide) Tryz.sizeOf31 rfl) ?_
  first | refine rv0 rfl rfl rfl (y_load ⟨Tryz.isAgg31, Tryz.sizeOf31⟩ rfl (by (repeat (first|exact zH _|apply zT));done) rfl) ?_ | refine rv0 rfl rfl rfl (y_load_slc ⟨Tryz.isAgg31, Tryz.sizeOf31⟩ rfl (by (repeat (first|exact zH _|apply zT));done) rfl) ?_
  refine rv0 rfl rfl rfl (y_move rfl) ?_
  refine rv0 rfl rfl rfl (y_gtr rfl rfl) ?_
  refine rv0 rfl rfl rfl (y_move rfl) ?_
  refine rj_part 21 rfl (fun hg21 => ?_) (fun hg21 => ?_)
  ·have f3 : x.tAt x.g.last < m.logTerm := by simpa using hg21
   refine rj_skip (wn2 rfl rfl rfl rfl rfl) rfl rfl ?_
   refine rj_skip (wn2 rfl rfl rfl rfl rfl) rfl rfl ?_
   refine rj_skip (wn2 rfl rfl rfl rfl rfl) rfl rfl ?_
   refine rj_skip (wn2 rfl rfl rfl rfl rfl) rfl rfl ?_
   refine rj_skip (wn2 rfl rfl rfl rfl rfl) rfl rfl ?_
   refine rj_skip (wn3 rfl rfl rfl rfl) rfl rfl ?_
   refine rj_skip (wn3 rfl rfl rfl rfl) rfl rfl ?_
   refine rj_skip (wn3 rfl rfl rfl rfl) rfl rfl ?_
   refine rj_skip (wn3 rfl rfl rfl rfl) rfl rfl ?_
   refine rj_skip (wn2 rfl rfl rfl rfl rfl) rfl rfl ?_
   refine rv0 rfl rfl rfl (y_pick_t rfl rfl) ?_
   refine rv0 rfl rfl rfl (y_assign rfl) ?_
   refine rj_nil ?_
   refine ej_join hJ4 (_) (by unfold ND.good; first|(simp [f3, f4]; done)|(simp [f3]; done)|(rw [f4] at f3 ⊢; simp)) (eC rfl (eC rfl (eC rfl eN))) rfl (by (repeat (first|exact zR _|(apply zP;focus (repeat (first|exact zH _|apply zT)))|apply zD|exact zA _ _)))
  ·have f3 : ¬ x.tAt x.g.last < m.logTerm := by simpa using hg21
   refine rj_val (wn1 rfl rfl rfl rfl) rfl rfl (y_fieldAddr (k := 5) Tryz.underlying48 rfl (n := 1) (by decide) Tryz.sizeOf31 rfl) ?_
   first | refine rj_val (wn1 rfl rfl rfl rfl) rfl rfl (y_load ⟨Tryz.isAgg31, Tryz.sizeOf31⟩ rfl (by (repeat (first|exact zH _|apply zT));done) rfl) ?_ | refine rj_val (wn1 rfl rfl rfl rfl) rfl rfl (y_load_slc ⟨Tryz.isAgg31, Tryz.sizeOf31⟩ rfl (by (repeat (first|exact zH _|apply zT));done) rfl) ?_
   refine rj_val (wn1 rfl rfl rfl rfl) rfl rfl (y_move rfl) ?_
   refine rj_val (wn1 rfl rfl rfl rfl) rfl rfl (y_eql rfl rfl) ?_
   refine rj_val (wn1 rfl rfl rfl rfl) rfl rfl (y_move rfl) ?_
   refine rj_part 26 rfl (fun hg26 => ?_) (fun hg26 => ?_)
   ·have f4 : m.logTerm = x.tAt x.g.last := by simpa using hg26
    refine rj_val (wn1 rfl rfl rfl rfl) rfl rfl (y_fieldAddr (k := 4) Tryz.underlying48 rfl (n := 1) (by decide) Tryz.sizeOf31 rfl) ?_
    first | refine rj_val (wn1 rfl rfl rfl rfl) rfl rfl (y_load ⟨Tryz.isAgg31, Tryz.sizeOf31⟩ rfl (by (repeat (first|exact zH _|apply zT));done) rfl) ?_ | refine rj_val (wn1 rfl rfl rfl rfl) rfl rfl (y_load_slc ⟨Tryz.isAgg31, Tryz.sizeOf31⟩ rfl (by (repeat (first|exact zH _|apply zT));done) rfl) ?_
    refine rj_val (wn1 rfl rfl rfl rfl) rfl rfl (y_move rfl) ?_
    refine rj_val (wn1 rfl rfl rfl rfl) rfl rfl (y_geq rfl rfl) ?_
    refine rj_val (wn1 rfl rfl rfl rfl) rfl rfl (y_pick_t rfl rfl) ?_
    refine rv0 rfl rfl rfl (y_pick_f rfl rfl) ?_
    refine rv0 rfl rfl rfl (y_assign rfl) ?_
    refine rj_nil ?_
    refine ej_join hJ4 (_) (by unfold ND.good; first|(simp [f3, f4]; done)|(simp [f3]; done)|(rw [f4] at f3 ⊢; simp)) (eC rfl (eC rfl (eC rfl eN))) rfl (by (repeat (first|exact zR _|(apply zP;focus (repeat (first|exact zH _|apply zT)))|apply zD|exact zA _ _)))
   ·have f4 : ¬ m.logTerm = x.tAt x.g.last := by simpa using hg26
    refine rj_skip (wn2 rfl rfl rfl rfl rfl) rfl rfl ?_
    refine rj_skip (wn2 rfl rfl rfl rfl rfl) rfl rfl ?_
    refine rj_skip (wn2 rfl rfl rfl rfl rfl) rfl rfl ?_
    refine rj_skip (wn2 rfl rfl rfl rfl rfl) rfl rfl ?_
    refine rj_val (wn1 rfl rfl rfl rfl) rfl rfl (y_pick_f rfl rfl) ?_
    refine rv0 rfl rfl rfl (y_pick_f rfl rfl) ?_
    refine rv0 rfl rfl rfl (y_assign rfl) ?_
    refine rj_nil ?_
    refine ej_join hJ4 (_) (by unfold ND.good; first|(simp [f3, f4]; done)|(simp [f3]; done)|(rw [f4] at f3 ⊢; simp)) (eC rfl (eC rfl (eC rfl eN))) rfl (by (repeat (first|exact zR _|(apply zP;focus (repeat (first|exact zH _|apply zT)))|apply zD|exact zA _ _)))
theorem nodup_lt : ∀ (n : Nat) (l : List Int), l.Nodup → (∀ i ∈ l, 0 ≤ i ∧ i < (n : Int)) → l.length ≤ n
  | 0, l, _, h => by
    cases l with
    | nil => simp
    | cons a l => have := h a (by simp); omega
  | n + 1, l, hd, h => by
    have h1 := nodup_lt n (l.erase (n : Int)) (hd.erase _) (fun i hi => by
      rw [hd.mem_erase_iff] at hi
      have := h i hi.2
      have := hi.1
      omega)
    have h2 := List.length_erase (l := l) (a := (n : Int))
    rw [h2] at h1
    split at h1 <;> omega
theorem setAdd_ok {l : List Int} (hd : l.Nodup) (i : Int) : (setAdd l i).Nodup := by
  unfold setAdd
  split
  · exact hd
  · rename_i h
    rw [List.nodup_append]
    exact ⟨hd, by simp, fun a ha b hb => by simp at hb; subst hb; intro e; subst e; exact h ha⟩
theorem setAdd_mem {l : List Int} {i j : Int} (h : j ∈ setAdd l i) : j ∈ l ∨ j = i := by
  unfold setAdd at h
  split at h
  · exact .inl h
  · simpa using h
theorem votesF_add (l : List Int) (i : Int) : fset (votesF l) i (.bool true) = votesF (setAdd l i) := by
  funext k
  unfold fset votesF setAdd
  by_cases hi : i ∈ l
  · rw [if_pos hi]
    by_cases hk : k = i
    · subst hk; simp [hi]
    · simp [hk]
  · rw [if_neg hi]
    by_cases hk : k = i
    · subst hk; simp
    · simp [hk]
theorem setAdd_len (l : List Int) (i : Int) : (if (votesF l i).isSome then l.length else l.length + 1) = (setAdd l i).length := by
  unfold votesF setAdd
  by_cases hi : i ∈ l <;> simp [hi]
theorem NIn.vote1 {k : Nat} {x : ND} (h : NIn k x) {i : Int} (hi : 0 ≤ i ∧ i < (x.n : Int)) : NIn k { x with votes := setAdd x.votes i } :=
  ⟨h.idn, h.term, h.vote, h.base, h.baseT, h.state, h.alln, h.all, h.commit, h.patience, h.peers, h.peer, ⟨setAdd_ok h.votes.1 i, fun j hj => by
    rcases setAdd_mem hj with hj | hj
    · exact h.votes.2 j hj
    · subst hj; exact hi⟩, h.out⟩
theorem cj_turnA {c : Cx} {x : Code} {Q : Exit → Act → World → Prop} {E : Env} {R : Hp} {L M : List Asn} {A B : Asn} (f : Find A L M) (hA : ∀ h, A h → B h) (h : CJ c x Q E R (B :: M)) : CJ c x Q E R L := fun a w hf hs => h a w hf ((hs.find f).turn hA)
theorem voted_t {R : Hp} (b : NB) (v : NV) (x : ND) (D : DK) (m : Msg) (ve : Value) (k n : Nat) (hk : k ≤ 50) (hx : NIn k x) (hv : NOk R v x) (hm : MIn k x.n m) (hve : FrX entE R m.es ve) (hD : D.ok n) (hn : n ≤ 800000000) :
    Tri Tryz.prog 42 [.pointer (some ⟨b.x, 0, none⟩), .agg ⟨msgC m ve⟩] R (ndL b v x D) (NRet b (votedN (x, D) m)) (NPan b (votedN (x, D) m)) := by
  have hidn := hx.idn
  have hfrm := hm.frm
  have hveo := hve.one
  have hy := hx.vote1 hfrm
  have hyl := nodup_lt x.n _ hy.votes.1 hy.votes.2
  replace hyl : (setAdd x.votes m.frm).length ≤ x.n := hyl
  refine tri_of Tryz.func42 rfl Tryz.ntmps42 rfl (fun σ F Q hret hend hpan => ?_)
  try simp only [List.cons_append, List.nil_append]
  refine cj_env (eL 0 rfl (eL 1 rfl eN)) ?_
  refine cj_seq (fun K1 hK1 => ?_)
  refine cj_region ?_
  refine rj_box (wn0 rfl) rfl rfl rfl (fun b3 => ?_)
  refine rj_nil ?_
  refine hK1 _ _ _ ?_
  refine cj_seq (fun K2 hK2 => ?_)
  refine cj_seq (fun K3 hK3 => ?_)
  refine cj_draw (by kernel_rfl) (by kernel_rfl) ?_
  refine qj_val (wn0 rfl) rfl rfl (y_move rfl) ?_
  refine qj_val (wn0 rfl) rfl rfl (y_nilCheck rfl) ?_
  refine qj_val (wn0 rfl) rfl rfl (y_fieldAddr (k := 3) Tryz.underlying81 rfl (n := 1) (by decide) Tryz.sizeOf3 rfl) ?_
  first | refine qj_val (wn0 rfl) rfl rfl (y_load ⟨Tryz.isAgg3, Tryz.sizeOf3⟩ rfl (by (repeat (first|exact zH _|apply zT));done) rfl) ?_ | refine qj_val (wn0 rfl) rfl rfl (y_load_slc ⟨Tryz.isAgg3, Tryz.sizeOf3⟩ rfl (by (repeat (first|exact zH _|apply zT));done) rfl) ?_
  refine qj_val (wn0 rfl) rfl rfl (y_neq rfl rfl) ?_
  refine qj_val (wn0 rfl) rfl rfl (y_move rfl) ?_
  refine qj_part 9 rfl (fun hg9 => ?_) (fun hg9 => ?_)
  ·have f0 : ¬ x.role = 1 ∨ ¬ m.term = x.g.term ∨ m.ok = false := .inl (by simpa using hg9)
   refine qj_skip (wn2 rfl rfl rfl rfl rfl) rfl rfl ?_
   refine qj_skip (wn2 rfl rfl rfl rfl rfl) rfl rfl ?_
   refine qj_skip (wn2 rfl rfl rfl rfl rfl) rfl rfl ?_
   refine qj_skip (wn2 rfl rfl rfl rfl rfl) rfl rfl ?_
   refine qj_skip (wn2 rfl rfl rfl rfl rfl) rfl rfl ?_
   refine qj_skip (wn2 rfl rfl rfl rfl rfl) rfl rfl ?_
   refine qj_skip (wn2 rfl rfl rfl rfl rfl) rfl rfl ?_
   refine qj_skip (wn2 rfl rfl rfl rfl rfl) rfl rfl ?_
   refine qj_val (wn0 rfl) rfl rfl (y_pick_t rfl rfl) ?_
   refine qj_val (wn0 rfl) rfl rfl (y_move rfl) ?_
   refine qj_skip (wn2 rfl rfl rfl rfl rfl) rfl rfl ?_
   refine qj_skip (wn2 rfl rfl rfl rfl rfl) rfl rfl ?_
   refine qj_skip (wn2 rfl rfl rfl rfl rfl) rfl rfl ?_
   refine qj_val (wn0 rfl) rfl rfl (y_pick_t rfl rfl) ?_
   refine qj_nil ?_
   refine hK3 _ _ _ ?_
   refine cj_env (eL 0 rfl (eL 3 rfl (eL 23 rfl eN))) ?_
   refine cj_cond_t rfl ?_
   refine cj_ret ?_
   refine hret _ _ _ ?_
   apply ej_ret Tryz.results42 .nil _ (ndL b v x D) (by first | exact Hp.le_refl _ | assumption) rfl
   case hp => rw [show votedN (x, D) m = (true, (x, D)) by unfold votedN; rw [if_pos f0]]; exact ⟨rfl, v, hv, rfl⟩
   case hS => (repeat (first|exact zR _|(apply zP;focus (repeat (first|exact zH _|apply zT)))|apply zD|exact zA _ _))
  ·have f1 : x.role = 1 := by simpa using hg9
   refine qj_val (wn1 rfl rfl rfl rfl) rfl rfl (y_fieldAddr (k := 3) Tryz.underlying48 rfl (n := 1) (by decide) Tryz.sizeOf31 rfl) ?_
   first | refine qj_val (wn1 rfl rfl rfl rfl) rfl rfl (y_load ⟨Tryz.isAgg31, Tryz.sizeOf31⟩ rfl (by (repeat (first|exact zH _|apply zT));done) rfl) ?_ | refine qj_val (wn1 rfl rfl rfl rfl) rfl rfl (y_load_slc ⟨Tryz.isAgg31, Tryz.sizeOf31⟩ rfl (by (repeat (first|exact zH _|apply zT));done) rfl) ?_
   refine qj_val (wn1 rfl rfl rfl rfl) rfl rfl (y_move rfl) ?_
   refine qj_val (wn1 rfl rfl rfl rfl) rfl rfl (y_nilCheck rfl) ?_
   refine qj_val (wn1 rfl rfl rfl rfl) rfl rfl (y_fieldAddr (k := 2) Tryz.underlying81 rfl (n := 1) (by decide) Tryz.sizeOf44 rfl) ?_
   first | refine qj_val (wn1 rfl rfl rfl rfl) rfl rfl (y_load ⟨Tryz.isAgg44, Tryz.sizeOf44⟩ rfl (by (repeat (first|exact zH _|apply zT));done) rfl) ?_ | refine qj_val (wn1 rfl rfl rfl rfl) rfl rfl (y_load_slc ⟨Tryz.isAgg44, Tryz.sizeOf44⟩ rfl (by (repeat (first|exact zH _|apply zT));done) rfl) ?_
   refine qj_val (wn1 rfl rfl rfl rfl) rfl rfl (y_call Tryz.call13 rfl (lgTerm_q b.l (some ⟨b.d, 0, none⟩) v.va x.g) (by (repeat (first|exact zN _|(apply zS;focus (repeat (first|exact zH _|apply zT))))))) ?_
   refine qj_val (wn1 rfl rfl rfl rfl) rfl rfl (y_neq rfl rfl) ?_
   refine qj_val (wn0 rfl) rfl rfl (y_pick_f rfl rfl) ?_
   refine qj_val (wn0 rfl) rfl rfl (y_move rfl) ?_
   refine qj_part 19 rfl (fun hg19 => ?_) (fun hg19 => ?_)
   ·first|(have f0 : ¬ x.role = 1 ∨ ¬ m.term = x.g.term ∨ m.ok = false := .inr (.inl (by simpa using hg19)))|skip
    refine qj_skip (wn2 rfl rfl rfl rfl rfl) rfl rfl ?_
    refine qj_skip (wn2 rfl rfl rfl rfl rfl) rfl rfl ?_
    refine qj_skip (wn2 rfl rfl rfl rfl rfl) rfl rfl ?_
    refine qj_val (wn0 rfl) rfl rfl (y_pick_t rfl rfl) ?_
    refine qj_nil ?_
    refine hK3 _ _ _ ?_
    refine cj_env (eL 0 rfl (eL 3 rfl (eL 23 rfl eN))) ?_
    refine cj_cond_t rfl ?_
    refine cj_ret ?_
    refine hret _ _ _ ?_
    apply ej_ret Tryz.results42 .nil _ (ndL b v x D) (by first | exact Hp.le_refl _ | assumption) rfl
    case hp => rw [show votedN (x, D) m = (true, (x, D)) by unfold votedN; rw [if_pos f0]]; exact ⟨rfl, v, hv, rfl⟩
    case hS => (repeat (first|exact zR _|(apply zP;focus (repeat (first|exact zH _|apply zT)))|apply zD|exact zA _ _))
   ·first|(have f2 : m.term = x.g.term := by simpa using hg19)|skip
    refine qj_val (wn1 rfl rfl rfl rfl) rfl rfl (y_fieldAddr (k := 7) Tryz.underlying48 rfl (n := 1) (by decide) Tryz.sizeOf4 rfl) ?_
    first | refine qj_val (wn1 rfl rfl rfl rfl) rfl rfl (y_load ⟨Tryz.isAgg4, Tryz.sizeOf4⟩ rfl (by (repeat (first|exact zH _|apply zT));done) rfl) ?_ | refine qj_val (wn1 rfl rfl rfl rfl) rfl rfl (y_load_slc ⟨Tryz.isAgg4, Tryz.sizeOf4⟩ rfl (by (repeat (first|exact zH _|apply zT));done) rfl) ?_
    refine qj_val (wn1 rfl rfl rfl rfl) rfl rfl (y_not rfl) ?_
    refine qj_val (wn0 rfl) rfl rfl (y_pick_f rfl rfl) ?_
    refine qj_nil ?_
    refine hK3 _ _ _ ?_
    refine cj_env (eL 0 rfl (eL 3 rfl (eL 23 rfl eN))) ?_
    refine cj_cond rfl (fun hc23 => ?_) (fun hc23 => ?_)
    ·first|(have f0 : ¬ x.role = 1 ∨ ¬ m.term = x.g.term ∨ m.ok = false := .inr (.inr (by simpa using hc23)))|skip
     refine cj_ret ?_
     refine hret _ _ _ ?_
     apply ej_ret Tryz.results42 .nil _ (ndL b v x D) (by first | exact Hp.le_refl _ | assumption) rfl
     case hp => rw [show votedN (x, D) m = (true, (x, D)) by unfold votedN; rw [if_pos f0]]; exact ⟨rfl, v, hv, rfl⟩
     case hS => (repeat (first|exact zR _|(apply zP;focus (repeat (first|exact zH _|apply zT)))|apply zD|exact zA _ _))
    ·have f3 : m.ok = true := by simpa using hc23
     have f0 : ¬ (¬ x.role = 1 ∨ ¬ m.term = x.g.term ∨ m.ok = false) := by simp [f1, f2, f3]
     obtain ⟨mm, hmm⟩ := hv.map f1
     refine cj_skip ?_
     refine hK2 _ _ _ ?_
     refine cj_seq (fun K5 hK5 => ?_)
     refine cj_mixg (L := [ndB b v x, blk b3 (msgC m ve) 48]) [0, 1, 2, 3, 4, 5] [] [6] _ (by (repeat (first|exact zR _|(apply zP;focus (repeat (first|exact zH _|apply zT)))|apply zD|exact zA _ _))) (by kernel_rfl) (by kernel_rfl) (by kernel_rfl) rfl ?_
     refine fj_val rfl rfl rfl (wn0 rfl) (fun R1 hR1 G => (y_move rfl)) ?_
     refine fj_val rfl rfl rfl (wn0 rfl) (fun R1 hR1 G => (y_nilCheck rfl)) ?_
     refine fj_val rfl rfl rfl (wn0 rfl) (fun R1 hR1 G => (y_fieldAddr (k := 7) Tryz.underlying81 rfl (n := 1) (by decide) Tryz.sizeOf42 rfl)) ?_
     refine fj_val rfl rfl rfl (wn0 rfl) (fun R1 hR1 G => (Yld.to (u := .map (some mm)) (y_load ⟨Tryz.isAgg42, Tryz.sizeOf42⟩ rfl (by (repeat (first|exact zH _|apply zT));done) rfl) hmm)) ?_
     refine fj_val rfl rfl rfl (wn0 rfl) (fun R1 hR1 G => (y_fieldAddr (k := 1) Tryz.underlying48 rfl (n := 1) (by decide) Tryz.sizeOf3 rfl)) ?_
     first | refine fj_val rfl rfl rfl (wn0 rfl) (fun R1 hR1 G => (y_load ⟨Tryz.isAgg3, Tryz.sizeOf3⟩ rfl (by (repeat (first|exact zH _|apply zT));done) rfl)) ?_ | refine fj_val rfl rfl rfl (wn0 rfl) (fun R1 hR1 G => (y_load_slc ⟨Tryz.isAgg3, Tryz.sizeOf3⟩ rfl (by (repeat (first|exact zH _|apply zT));done) rfl)) ?_
     refine fj_nil ?_
     refine xj_nil ?_
     try simp only [List.cons_append, List.nil_append, List.append_nil]
     refine rj_turn (A := mpA v.vm x.votes) (B := mapF mm .i64 (votesF x.votes) x.votes.length) (by (repeat (first|exact zH _|apply zT));done) (fun h hh => by rw [hmm] at hh; exact hh) ?_
     refine rj_mapUpdate Tryz.underlying42 Tryz.underlying3 (wn0 rfl) rfl rfl rfl (by (repeat (first|exact zH _|apply zT));done) ?_
     rw [votesF_add, setAdd_len]
     refine rj_nil ?_
     refine hK5 _ _ _ ?_
     refine cj_env (eL 0 rfl eN) ?_
     refine cj_seq (fun K6 hK6 => ?_)
     refine cj_draw (by kernel_rfl) (by kernel_rfl) ?_
     refine qj_val (wn0 rfl) rfl rfl (y_move rfl) ?_
     refine qj_val (wn0 rfl) rfl rfl (y_nilCheck rfl) ?_
     refine qj_val (wn0 rfl) rfl rfl (y_fieldAddr (k := 7) Tryz.underlying81 rfl (n := 1) (by decide) Tryz.sizeOf42 rfl) ?_
     refine qj_val (wn0 rfl) rfl rfl ((Yld.to (u := .map (some mm)) (y_load ⟨Tryz.isAgg42, Tryz.sizeOf42⟩ rfl (by (repeat (first|exact zH _|apply zT));done) rfl) hmm)) ?_
     refine qj_val (wn0 rfl) rfl rfl (y_len_map Tryz.underlying42 rfl (by (repeat (first|exact zH _|apply zT));done)) ?_
     refine qj_val (wn0 rfl) rfl rfl ((y_mul64 rfl rfl (by omega))) ?_
     refine qj_val (wn0 rfl) rfl rfl (y_move rfl) ?_
     refine qj_val (wn0 rfl) rfl rfl (y_nilCheck rfl) ?_
     refine qj_val (wn0 rfl) rfl rfl (y_fieldAddr (k := 1) Tryz.underlying81 rfl (n := 1) (by decide) Tryz.sizeOf3 rfl) ?_
     first | refine qj_val (wn0 rfl) rfl rfl (y_load ⟨Tryz.isAgg3, Tryz.sizeOf3⟩ rfl (by (repeat (first|exact zH _|apply zT));done) rfl) ?_ | refine qj_val (wn0 rfl) rfl rfl (y_load_slc ⟨Tryz.isAgg3, Tryz.sizeOf3⟩ rfl (by (repeat (first|exact zH _|apply zT));done) rfl) ?_
     refine qj_val (wn0 rfl) rfl rfl (y_gtr rfl rfl) ?_
     refine qj_nil ?_
     refine hK6 _ _ _ ?_
     refine cj_env (eL 0 rfl (eL 40 rfl eN)) ?_
     refine cj_cond rfl (fun hc40 => ?_) (fun hc40 => ?_)
     ·have f4 : 2 * ((setAdd x.votes m.frm).length : Int) > x.n := by (try simp at hc40); omega
      have hE : votedN (x, D) m = winN ({ x with votes := setAdd x.votes m.frm }, D) := by unfold votedN; rw [if_neg f0, if_pos f4]
      refine cj_turnA (A := mapF mm .i64 (votesF (setAdd x.votes m.frm)) (setAdd x.votes m.frm).length) (B := mpA v.vm (setAdd x.votes m.frm)) (by (repeat (first|exact zH _|apply zT));done) (fun h hh => by rw [hmm]; exact hh) ?_
      refine cj_region ?_
      refine rv0 rfl rfl rfl (y_move rfl) ?_
      refine rj_call (wn0 rfl) rfl Tryz.call64 rfl (win_t b v { x with votes := setAdd x.votes m.frm } D k n (by omega) hy (hv.to (Hp.le_refl _) ⟨rfl, rfl, rfl⟩) hD (by omega)) (by (repeat (first|exact zN _|(apply zS;focus (repeat (first|exact zH _|apply zT)))))) (fun ch Rp Lp hRp hpp => ?_) ?_
      · obtain ⟨hF, rfl, v3, hv3, rfl⟩ := hpp
        try simp only [List.cons_append, List.nil_append]
        refine hpan _ _ _ _ ?_
        refine ej_pan _ (ndL b v3 (winN ({ x with votes := setAdd x.votes m.frm }, D)).2.1 (winN ({ x with votes := setAdd x.votes m.frm }, D)).2.2) (by first | exact Hp.le_refl _ | assumption | exact Hp.le_trans ‹_› ‹_›) rfl (by (repeat (first|exact zR _|(apply zP;focus (repeat (first|exact zH _|apply zT)))|apply zD|exact zA _ _))) ?_
        exact ⟨by rw [hE]; exact hF, rfl, v3, by rw [hE]; exact hv3, by rw [hE]⟩
      rintro r R8 L' hR8 ⟨hF, v3, hv3, rfl⟩
      try simp only [List.cons_append, List.nil_append]
      refine rj_nil ?_
      refine hend _ _ _ ?_
      apply ej_end Tryz.results42 .nil _ (ndL b v3 (winN ({ x with votes := setAdd x.votes m.frm }, D)).2.1 (winN ({ x with votes := setAdd x.votes m.frm }, D)).2.2) (by first | exact Hp.le_refl _ | assumption) rfl
      case hp => rw [hE]; exact ⟨hF, v3, hv3, rfl⟩
      case hS => (repeat (first|exact zR _|(apply zP;focus (repeat (first|exact zH _|apply zT)))|apply zD|exact zA _ _))
     ·have f4 : ¬ 2 * ((setAdd x.votes m.frm).length : Int) > x.n := by (try simp at hc40); omega
      have hE : votedN (x, D) m = (true, ({ x with votes := setAdd x.votes m.frm }, D)) := by unfold votedN; rw [if_neg f0, if_neg f4]
      refine cj_turnA (A := mapF mm .i64 (votesF (setAdd x.votes m.frm)) (setAdd x.votes m.frm).length) (B := mpA v.vm (setAdd x.votes m.frm)) (by (repeat (first|exact zH _|apply zT));done) (fun h hh => by rw [hmm]; exact hh) ?_
      refine cj_skip ?_
      refine hend _ _ _ ?_
      apply ej_end Tryz.results42 .nil _ (ndL b v { x with votes := setAdd x.votes m.frm } D) (by first | exact Hp.le_refl _ | assumption) rfl
      case hp => rw [hE]; exact ⟨rfl, v, hv.to (Hp.le_refl _) ⟨rfl, rfl, rfl⟩, rfl⟩
      case hS => (repeat (first|exact zR _|(apply zP;focus (repeat (first|exact zH _|apply zT)))|apply zD|exact zA _ _))
end V
end Go.Proofs.YtjdbigplednihaaGreat
set_option linter.unusedSimpArgs false
set_option linter.unusedVariables false
set_option maxRecDepth 100000
namespace Go.Proofs.YtjdbigplednihaaGreat
open Go.RowKit
namespace V
set_option maxHeartbeats 4000000
theorem NIn.setPeer {k : Nat} {x : ND} (h : NIn k x) (to : Nat) {p : Int × Int} (hp : (1 ≤ p.1 ∧ p.1 ≤ 200000000000000) ∧ (0 ≤ p.2 ∧ p.2 ≤ 150000000000000)) : NIn k (x.setPeer to p) :=
  ⟨h.idn, h.term, h.vote, h.base, h.baseT, h.state, h.alln, h.all, h.commit, h.patience, fun hr => by show (x.peers.set to p).length = _; rw [List.length_set]; exact h.peers hr, fun q hq => by
    rcases List.mem_or_eq_of_mem_set hq with hq | hq
    · exact h.peer q hq
    · subst hq; exact hp, h.votes, h.out⟩
theorem slc_shapeP {e : TypeId} {sz n : Nat} {v : Value} {xs : List Value} (hn : 0 < n) (h : Hp) (hs : slc e sz v n xs h) : ∃ (g o cap : Nat), v = .slice (some ⟨g, o, none⟩) n cap ∧ n ≤ cap := by
  obtain ⟨_, ⟨_, h0⟩ | ⟨g, cap, fz, pre, post, hv, _, _, hc, _⟩⟩ := hs
  · omega
  · exact ⟨g, pre.length, cap, hv, hc⟩
theorem peer_b {k : Nat} {x : ND} (hx : NIn k x) {i : Nat} (hi : i < x.peers.length) : (1 ≤ x.nxt i ∧ x.nxt i ≤ 200000000000000) ∧ (0 ≤ x.mat i ∧ x.mat i ≤ 150000000000000) := by
  have : x.peers.getD i (0, 0) ∈ x.peers := by rw [List.getD_eq_getElem?_getD, List.getElem?_eq_getElem hi]; simp
  exact hx.peer _ this
theorem set_getDp {l : List (Int × Int)} {i : Nat} (h : i < l.length) (p : Int × Int) : (l.set i p).getD i (0, 0) = p := by
  simp [List.getD_eq_getElem?_getD, h]
theorem cellV_mk (g o n k j : Nat) : cellV (.slice (some ⟨g, o, none⟩) n k) j = .pointer (some ⟨g, o + j, none⟩) := by simp [cellV, add_mk]
theorem heard_t {R : Hp} (b : NB) (v : NV) (x : ND) (D : DK) (m : Msg) (ve : Value) (k : Nat) (hk : k ≤ 50) (hx : NIn k x) (hv : NOk R v x) (hm : MIn k x.n m) (hve : FrX entE R m.es ve) :
    Tri Tryz.prog 44 [.pointer (some ⟨b.x, 0, none⟩), .agg ⟨msgC m ve⟩] R (ndL b v x D) (NRet b (heardN (x, D) m)) (NPan b (heardN (x, D) m)) := by
  have hidn := hx.idn
  have hfrm := hm.frm
  have hveo := hve.one
  have hidx := hm.index
  have hg := hx.g (by omega)
  have hlb := LG.last_b hg
  obtain ⟨to, hto⟩ : ∃ to, to = m.frm.toNat := ⟨_, rfl⟩
  have hfto : m.frm = (to : Int) := by omega
  obtain ⟨k1, hk1⟩ : ∃ k1, k1 = max (x.mat to) (min m.index x.g.last) := ⟨_, rfl⟩
  have hN : heardN (x, D) m = if ¬ x.role = 2 ∨ ¬ m.term = x.g.term then (true, (x, D)) else if m.ok = false then (true, ((x.setPeer to (max (min (x.nxt to - 1) (m.index + 1)) (x.mat to + 1), x.mat to)).feed to, D)) else if k1 + 1 ≤ (x.setPeer to (k1 + 1, k1)).count.g.last then (true, ((x.setPeer to (k1 + 1, k1)).count.feed to, D)) else (true, ((x.setPeer to (k1 + 1, k1)).count, D)) := by rw [hk1, hto]; rfl
  refine tri_of Tryz.func44 rfl Tryz.ntmps44 rfl (fun σ F Q hret hend hpan => ?_)
  try simp only [List.cons_append, List.nil_append]
  refine cj_env (eL 0 rfl (eL 1 rfl eN)) ?_
  refine cj_seq (fun K1 hK1 => ?_)
  refine cj_region ?_
  refine rj_box (wn0 rfl) rfl rfl rfl (fun b3 => ?_)
  refine rj_nil ?_
  refine hK1 _ _ _ ?_
  refine cj_seq (fun K2 hK2 => ?_)
  refine cj_seq (fun K3 hK3 => ?_)
  refine cj_draw (by kernel_rfl) (by kernel_rfl) ?_
  refine qj_val (wn0 rfl) rfl rfl (y_move rfl) ?_
  refine qj_val (wn0 rfl) rfl rfl (y_nilCheck rfl) ?_
  refine qj_val (wn0 rfl) rfl rfl (y_fieldAddr (k := 3) Tryz.underlying81 rfl (n := 1) (by decide) Tryz.sizeOf3 rfl) ?_
  first | refine qj_val (wn0 rfl) rfl rfl (y_load ⟨Tryz.isAgg3, Tryz.sizeOf3⟩ rfl (by (repeat (first|exact zH _|apply zT));done) rfl) ?_ | refine qj_val (wn0 rfl) rfl rfl (y_load_slc ⟨Tryz.isAgg3, Tryz.sizeOf3⟩ rfl (by (repeat (first|exact zH _|apply zT));done) rfl) ?_
  refine qj_val (wn0 rfl) rfl rfl (y_neq rfl rfl) ?_
  refine qj_val (wn0 rfl) rfl rfl (y_move rfl) ?_
  refine qj_part 10 rfl (fun hg10 => ?_) (fun hg10 => ?_)
  ·have f0 : ¬ x.role = 2 ∨ ¬ m.term = x.g.term := .inl (by simpa using hg10)
   refine qj_skip (wn2 rfl rfl rfl rfl rfl) rfl rfl ?_
   refine qj_skip (wn2 rfl rfl rfl rfl rfl) rfl rfl ?_
   refine qj_skip (wn2 rfl rfl rfl rfl rfl) rfl rfl ?_
   refine qj_skip (wn2 rfl rfl rfl rfl rfl) rfl rfl ?_
   refine qj_skip (wn2 rfl rfl rfl rfl rfl) rfl rfl ?_
   refine qj_skip (wn2 rfl rfl rfl rfl rfl) rfl rfl ?_
   refine qj_skip (wn2 rfl rfl rfl rfl rfl) rfl rfl ?_
   refine qj_skip (wn2 rfl rfl rfl rfl rfl) rfl rfl ?_
   refine qj_val (wn0 rfl) rfl rfl (y_pick_t rfl rfl) ?_
   refine qj_nil ?_
   refine hK3 _ _ _ ?_
   refine cj_env (eL 0 rfl (eL 3 rfl (eL 19 rfl eN))) ?_
   refine cj_cond_t rfl ?_
   refine cj_ret ?_
   refine hret _ _ _ ?_
   apply ej_ret Tryz.results44 .nil _ (ndL b v x D) (by first | exact Hp.le_refl _ | assumption) rfl
   case hp => rw [hN, if_pos f0]; exact ⟨rfl, v, hv, rfl⟩
   case hS => (repeat (first|exact zR _|(apply zP;focus (repeat (first|exact zH _|apply zT)))|apply zD|exact zA _ _))
  ·have f1 : x.role = 2 := by simpa using hg10
   refine qj_val (wn1 rfl rfl rfl rfl) rfl rfl (y_fieldAddr (k := 3) Tryz.underlying48 rfl (n := 1) (by decide) Tryz.sizeOf31 rfl) ?_
   first | refine qj_val (wn1 rfl rfl rfl rfl) rfl rfl (y_load ⟨Tryz.isAgg31, Tryz.sizeOf31⟩ rfl (by (repeat (first|exact zH _|apply zT));done) rfl) ?_ | refine qj_val (wn1 rfl rfl rfl rfl) rfl rfl (y_load_slc ⟨Tryz.isAgg31, Tryz.sizeOf31⟩ rfl (by (repeat (first|exact zH _|apply zT));done) rfl) ?_
   refine qj_val (wn1 rfl rfl rfl rfl) rfl rfl (y_move rfl) ?_
   refine qj_val (wn1 rfl rfl rfl rfl) rfl rfl (y_nilCheck rfl) ?_
   refine qj_val (wn1 rfl rfl rfl rfl) rfl rfl (y_fieldAddr (k := 2) Tryz.underlying81 rfl (n := 1) (by decide) Tryz.sizeOf44 rfl) ?_
   first | refine qj_val (wn1 rfl rfl rfl rfl) rfl rfl (y_load ⟨Tryz.isAgg44, Tryz.sizeOf44⟩ rfl (by (repeat (first|exact zH _|apply zT));done) rfl) ?_ | refine qj_val (wn1 rfl rfl rfl rfl) rfl rfl (y_load_slc ⟨Tryz.isAgg44, Tryz.sizeOf44⟩ rfl (by (repeat (first|exact zH _|apply zT));done) rfl) ?_
   refine qj_val (wn1 rfl rfl rfl rfl) rfl rfl (y_call Tryz.call13 rfl (lgTerm_q b.l (some ⟨b.d, 0, none⟩) v.va x.g) (by (repeat (first|exact zN _|(apply zS;focus (repeat (first|exact zH _|apply zT))))))) ?_
   refine qj_val (wn1 rfl rfl rfl rfl) rfl rfl (y_neq rfl rfl) ?_
   refine qj_val (wn0 rfl) rfl rfl (y_pick_f rfl rfl) ?_
   refine qj_nil ?_
   refine hK3 _ _ _ ?_
   refine cj_env (eL 0 rfl (eL 3 rfl (eL 19 rfl eN))) ?_
   refine cj_cond rfl (fun hc19 => ?_) (fun hc19 => ?_)
   ·first|(have f0 : ¬ x.role = 2 ∨ ¬ m.term = x.g.term := .inr (by simpa using hc19))|skip
    refine cj_ret ?_
    refine hret _ _ _ ?_
    apply ej_ret Tryz.results44 .nil _ (ndL b v x D) (by first | exact Hp.le_refl _ | assumption) rfl
    case hp => rw [hN, if_pos f0]; exact ⟨rfl, v, hv, rfl⟩
    case hS => (repeat (first|exact zR _|(apply zP;focus (repeat (first|exact zH _|apply zT)))|apply zD|exact zA _ _))
   ·have f2 : m.term = x.g.term := by simpa using hc19
    have f0 : ¬ (¬ x.role = 2 ∨ ¬ m.term = x.g.term) := by simp [f1, f2]
    have hpl := hx.peers f1
    have htl : to < x.peers.length := by omega
    obtain ⟨hp1, hp2⟩ := peer_b hx htl
    have hn0 : nth (pairsV x.peers) (m.frm.toNat * 2 + 0) = some (.int .u64 (x.nxt to)) := (pair_nth x.peers to m.frm hfto htl).1
    have hn1 : nth (pairsV x.peers) (m.frm.toNat * 2 + 1) = some (.int .u64 (x.mat to)) := (pair_nth x.peers to m.frm hfto htl).2
    refine cj_pure (A := prA v x) (by (repeat (first|exact zH _|apply zT));done) (fun h hh => slc_shapeP (show 0 < x.peers.length by omega) h hh) (fun hsh => ?_)
    obtain ⟨gp, op, cp, hvp, hcp⟩ := hsh
    rw [if_neg f0] at hN
    refine cj_skip ?_
    refine hK2 _ _ _ ?_
    refine cj_seq (fun K5 hK5 => ?_)
    refine cj_draw (by kernel_rfl) (by kernel_rfl) ?_
    refine qj_val (wn0 rfl) rfl rfl (y_move rfl) ?_
    refine qj_val (wn0 rfl) rfl rfl (y_nilCheck rfl) ?_
    refine qj_val (wn0 rfl) rfl rfl (y_fieldAddr (k := 8) Tryz.underlying81 rfl (n := 1) (by decide) Tryz.sizeOf79 rfl) ?_
    refine qj_val (wn0 rfl) rfl rfl ((Yld.to (u := .slice (some ⟨gp, op, none⟩) x.peers.length cp) (y_load ⟨Tryz.isAgg79, Tryz.sizeOf79⟩ rfl (by (repeat (first|exact zH _|apply zT));done) rfl) hvp)) ?_
    refine qj_val (wn0 rfl) rfl rfl (y_fieldAddr (k := 1) Tryz.underlying48 rfl (n := 1) (by decide) Tryz.sizeOf3 rfl) ?_
    first | refine qj_val (wn0 rfl) rfl rfl (y_load ⟨Tryz.isAgg3, Tryz.sizeOf3⟩ rfl (by (repeat (first|exact zH _|apply zT));done) rfl) ?_ | refine qj_val (wn0 rfl) rfl rfl (y_load_slc ⟨Tryz.isAgg3, Tryz.sizeOf3⟩ rfl (by (repeat (first|exact zH _|apply zT));done) rfl) ?_
    refine qj_val (wn0 rfl) rfl rfl ((y_indexAddr Tryz.underlying79 Tryz.sizeOf116 rfl rfl (by omega))) ?_
    refine qj_val (wn0 rfl) rfl rfl (y_assign rfl) ?_
    refine qj_nil ?_
    refine hK5 _ _ _ ?_
    refine cj_env (eL 0 rfl (eL 3 rfl (eL 4 rfl eN))) ?_
    refine cj_seq (fun K6 hK6 => ?_)
    refine cj_seq (fun K7 hK7 => ?_)
    refine cj_region ?_
    refine rv0 rfl rfl rfl (y_fieldAddr (k := 7) Tryz.underlying48 rfl (n := 1) (by decide) Tryz.sizeOf4 rfl) ?_
    first | refine rv0 rfl rfl rfl (y_load ⟨Tryz.isAgg4, Tryz.sizeOf4⟩ rfl (by (repeat (first|exact zH _|apply zT));done) rfl) ?_ | refine rv0 rfl rfl rfl (y_load_slc ⟨Tryz.isAgg4, Tryz.sizeOf4⟩ rfl (by (repeat (first|exact zH _|apply zT));done) rfl) ?_
    refine rv0 rfl rfl rfl (y_not rfl) ?_
    refine rj_nil ?_
    refine hK7 _ _ _ ?_
    refine cj_cond rfl (fun hc29 => ?_) (fun hc29 => ?_)
    ·have f3 : m.ok = false := by simpa using hc29
     rw [if_pos f3] at hN
     refine cj_seq (fun K9 hK9 => ?_)
     refine cj_mixg (L := [blk b3 (msgC m ve) 48, prA v x]) [0, 1, 2, 3, 4, 5, 6, 7, 8, 9, 10, 11, 12, 13, 14, 15, 16, 17] [] [18] _ (by (repeat (first|exact zR _|(apply zP;focus (repeat (first|exact zH _|apply zT)))|apply zD|exact zA _ _))) (by kernel_rfl) (by kernel_rfl) (by kernel_rfl) rfl ?_
     refine fj_val rfl rfl rfl (wn0 rfl) (fun R1 hR1 G => (y_move rfl)) ?_
     refine fj_val rfl rfl rfl (wn0 rfl) (fun R1 hR1 G => (y_move rfl)) ?_
     refine fj_val rfl rfl rfl (wn0 rfl) (fun R1 hR1 G => (y_nilCheck rfl)) ?_
     refine fj_val rfl rfl rfl (wn0 rfl) (fun R1 hR1 G => (y_fieldAddr (k := 0) Tryz.underlying116 rfl (n := 1) (by decide) Tryz.sizeOf31 rfl)) ?_
     refine fj_val rfl rfl rfl (wn0 rfl) (fun R1 hR1 G => (y_load_slc (v := v.vp) ⟨Tryz.isAgg31, Tryz.sizeOf31⟩ (by rw [hvp, cellV_mk, ← Nat.add_assoc]; rfl) (by (repeat (first|exact zH _|apply zT));done) hn0)) ?_
     refine fj_val rfl rfl rfl (wn0 rfl) (fun R1 hR1 G => (y_subu rfl rfl (by omega))) ?_
     refine fj_val rfl rfl rfl (wn0 rfl) (fun R1 hR1 G => (y_fieldAddr (k := 4) Tryz.underlying48 rfl (n := 1) (by decide) Tryz.sizeOf31 rfl)) ?_
     first | refine fj_val rfl rfl rfl (wn0 rfl) (fun R1 hR1 G => (y_load ⟨Tryz.isAgg31, Tryz.sizeOf31⟩ rfl (by (repeat (first|exact zH _|apply zT));done) rfl)) ?_ | refine fj_val rfl rfl rfl (wn0 rfl) (fun R1 hR1 G => (y_load_slc ⟨Tryz.isAgg31, Tryz.sizeOf31⟩ rfl (by (repeat (first|exact zH _|apply zT));done) rfl)) ?_
     refine fj_val rfl rfl rfl (wn0 rfl) (fun R1 hR1 G => (y_addu rfl rfl (by omega))) ?_
     refine fj_val rfl rfl rfl (wn0 rfl) (fun R1 hR1 G => (y_min rfl rfl)) ?_
     refine fj_val rfl rfl rfl (wn0 rfl) (fun R1 hR1 G => (y_move rfl)) ?_
     refine fj_val rfl rfl rfl (wn0 rfl) (fun R1 hR1 G => (y_nilCheck rfl)) ?_
     refine fj_val rfl rfl rfl (wn0 rfl) (fun R1 hR1 G => (y_fieldAddr (k := 1) Tryz.underlying116 rfl (n := 1) (by decide) Tryz.sizeOf31 rfl)) ?_
     refine fj_val rfl rfl rfl (wn0 rfl) (fun R1 hR1 G => (y_load_slc (v := v.vp) ⟨Tryz.isAgg31, Tryz.sizeOf31⟩ (by rw [hvp, cellV_mk, ← Nat.add_assoc]; rfl) (by (repeat (first|exact zH _|apply zT));done) hn1)) ?_
     refine fj_val rfl rfl rfl (wn0 rfl) (fun R1 hR1 G => (y_addu rfl rfl (by omega))) ?_
     refine fj_val rfl rfl rfl (wn0 rfl) (fun R1 hR1 G => (y_max rfl rfl)) ?_
     refine fj_val rfl rfl rfl (wn0 rfl) (fun R1 hR1 G => (y_nilCheck rfl)) ?_
     refine fj_val rfl rfl rfl (wn0 rfl) (fun R1 hR1 G => (y_fieldAddr (k := 0) Tryz.underlying116 rfl (n := 1) (by decide) Tryz.sizeOf31 rfl)) ?_
     refine fj_nil ?_
     refine xj_nil ?_
     try simp only [List.cons_append, List.nil_append, List.append_nil]
     refine rj_store_slc (v := v.vp) (ys := pairsV (x.setPeer to (max (min (x.nxt to - 1) (m.index + 1)) (x.mat to + 1), x.mat to)).peers) ⟨Tryz.isAgg31, Tryz.sizeOf31⟩ (wn0 rfl) (j := m.frm.toNat * 2 + 0) (by rw [hvp, cellV_mk, ← Nat.add_assoc]; rfl) rfl rfl (by (repeat (first|exact zH _|apply zT));done) (by rw [pairs_len]; omega) (by rw [(pair_set x.peers to m.frm _ hfto htl).1]; rfl) (by omega) ?_
     refine rj_nil ?_
     refine hK9 _ _ _ ?_
     refine cj_env (eL 0 rfl (eL 3 rfl eN)) ?_
     refine cj_seq (fun K10 hK10 => ?_)
     refine cj_region ?_
     refine rv0 rfl rfl rfl (y_move rfl) ?_
     refine rv0 rfl rfl rfl (y_fieldAddr (k := 1) Tryz.underlying48 rfl (n := 1) (by decide) Tryz.sizeOf3 rfl) ?_
     first | refine rv0 rfl rfl rfl (y_load ⟨Tryz.isAgg3, Tryz.sizeOf3⟩ rfl (by (repeat (first|exact zH _|apply zT));done) rfl) ?_ | refine rv0 rfl rfl rfl (y_load_slc ⟨Tryz.isAgg3, Tryz.sizeOf3⟩ rfl (by (repeat (first|exact zH _|apply zT));done) rfl) ?_
     obtain ⟨y1, hy1⟩ : ∃ y, y = x.setPeer to (max (min (x.nxt to - 1) (m.index + 1)) (x.mat to + 1), x.mat to) := ⟨_, rfl⟩
     have hyn : NIn k y1 := by rw [hy1]; exact hx.setPeer to (by dsimp only; omega)
     have hyv : NOk R v y1 := by rw [hy1]; exact hv.to (Hp.le_refl _) ⟨rfl, rfl, rfl⟩
     have hyl : y1.peers.length = x.peers.length := by rw [hy1]; exact List.length_set
     have hft := feed_t (R := R) b v y1 k (by omega) hyn hyv to (by omega)
     rw [← hfto] at hft
     refine rj_turn (A := slc 116 2 v.vp x.peers.length (pairsV (x.setPeer to (max (min (x.nxt to - 1) (m.index + 1)) (x.mat to + 1), x.mat to)).peers)) (B := prA v y1) (by (repeat (first|exact zH _|apply zT));done) (fun h hh => by show slc _ _ _ y1.peers.length _ h; rw [hyl, hy1]; exact hh) ?_
     refine rj_turn (A := ndB b v x) (B := ndB b v y1) (by (repeat (first|exact zH _|apply zT));done) (fun h hh => by rw [hy1]; exact hh) ?_
     refine rj_turn (A := lgN b v x) (B := lgN b v y1) (by (repeat (first|exact zH _|apply zT));done) (fun h hh => by rw [hy1]; exact hh) ?_
     refine rj_turn (A := outA v x) (B := outA v y1) (by (repeat (first|exact zH _|apply zT));done) (fun h hh => by rw [hy1]; exact hh) ?_
     refine rj_turn (A := mpA v.vm x.votes) (B := mpA v.vm y1.votes) (by (repeat (first|exact zH _|apply zT));done) (fun h hh => by rw [hy1]; exact hh) ?_
     refine rj_call (wn0 rfl) rfl Tryz.call35 rfl (hft) (by (repeat (first|exact zN _|(apply zS;focus (repeat (first|exact zH _|apply zT)))))) (fun _ _ _ _ h => h.elim) ?_
     rintro r R2 L' hR2 ⟨vo, css, hels, hvo2, rfl⟩
     try simp only [List.cons_append, List.nil_append]
     refine rj_nil ?_
     refine hK10 _ _ _ ?_
     refine cj_env eN ?_
     refine cj_ret ?_
     refine hret _ _ _ ?_
     apply ej_ret Tryz.results44 .nil _ (ndL b (v.sent vo css) (y1.feed to) D) (by first | exact Hp.le_refl _ | assumption) rfl
     case hp => rw [hN, ← hy1]; exact ⟨rfl, _, hyv.sent (y := y1.feed to) hR2 ⟨rfl, rfl⟩ hels hvo2, by rw [hy1]⟩
     case hS => (repeat (first|exact zR _|(apply zP;focus (repeat (first|exact zH _|apply zT)))|apply zD|exact zA _ _))
    ·have f3 : ¬ m.ok = false := by simpa using hc29
     rw [if_neg f3] at hN
     refine cj_skip ?_
     refine hK6 _ _ _ ?_
     refine cj_env (eL 0 rfl (eL 3 rfl (eL 4 rfl eN))) ?_
     refine cj_seq (fun K11 hK11 => ?_)
     refine cj_mixg (L := [blk b3 (msgC m ve) 48, prA v x, ndB b v x, lgN b v x]) [0, 1, 2, 3, 4, 5, 6, 7, 8, 9, 10, 11, 12, 13, 14, 15] [] [16] _ (by (repeat (first|exact zR _|(apply zP;focus (repeat (first|exact zH _|apply zT)))|apply zD|exact zA _ _))) (by kernel_rfl) (by kernel_rfl) (by kernel_rfl) rfl ?_
     refine fj_val rfl rfl rfl (wn0 rfl) (fun R1 hR1 G => (y_move rfl)) ?_
     refine fj_val rfl rfl rfl (wn0 rfl) (fun R1 hR1 G => (y_move rfl)) ?_
     refine fj_val rfl rfl rfl (wn0 rfl) (fun R1 hR1 G => (y_nilCheck rfl)) ?_
     refine fj_val rfl rfl rfl (wn0 rfl) (fun R1 hR1 G => (y_fieldAddr (k := 1) Tryz.underlying116 rfl (n := 1) (by decide) Tryz.sizeOf31 rfl)) ?_
     refine fj_val rfl rfl rfl (wn0 rfl) (fun R1 hR1 G => (y_load_slc (v := v.vp) ⟨Tryz.isAgg31, Tryz.sizeOf31⟩ (by rw [hvp, cellV_mk, ← Nat.add_assoc]; rfl) (by (repeat (first|exact zH _|apply zT));done) hn1)) ?_
     refine fj_val rfl rfl rfl (wn0 rfl) (fun R1 hR1 G => (y_fieldAddr (k := 4) Tryz.underlying48 rfl (n := 1) (by decide) Tryz.sizeOf31 rfl)) ?_
     first | refine fj_val rfl rfl rfl (wn0 rfl) (fun R1 hR1 G => (y_load ⟨Tryz.isAgg31, Tryz.sizeOf31⟩ rfl (by (repeat (first|exact zH _|apply zT));done) rfl)) ?_ | refine fj_val rfl rfl rfl (wn0 rfl) (fun R1 hR1 G => (y_load_slc ⟨Tryz.isAgg31, Tryz.sizeOf31⟩ rfl (by (repeat (first|exact zH _|apply zT));done) rfl)) ?_
     refine fj_val rfl rfl rfl (wn0 rfl) (fun R1 hR1 G => (y_move rfl)) ?_
     refine fj_val rfl rfl rfl (wn0 rfl) (fun R1 hR1 G => (y_nilCheck rfl)) ?_
     refine fj_val rfl rfl rfl (wn0 rfl) (fun R1 hR1 G => (y_fieldAddr (k := 2) Tryz.underlying81 rfl (n := 1) (by decide) Tryz.sizeOf44 rfl)) ?_
     first | refine fj_val rfl rfl rfl (wn0 rfl) (fun R1 hR1 G => (y_load ⟨Tryz.isAgg44, Tryz.sizeOf44⟩ rfl (by (repeat (first|exact zH _|apply zT));done) rfl)) ?_ | refine fj_val rfl rfl rfl (wn0 rfl) (fun R1 hR1 G => (y_load_slc ⟨Tryz.isAgg44, Tryz.sizeOf44⟩ rfl (by (repeat (first|exact zH _|apply zT));done) rfl)) ?_
     refine fj_val rfl rfl rfl (wn0 rfl) (fun R1 hR1 G => (y_call Tryz.call19 rfl (lgLast_q b.l (some ⟨b.d, 0, none⟩) v.va x.g hg (hv.va.mono hR1)) (by (repeat (first|exact zN _|(apply zS;focus (repeat (first|exact zH _|apply zT)))))))) ?_
     refine fj_val rfl rfl rfl (wn0 rfl) (fun R1 hR1 G => (y_min rfl rfl)) ?_
     refine fj_val rfl rfl rfl (wn0 rfl) (fun R1 hR1 G => (y_max rfl rfl)) ?_
     refine fj_val rfl rfl rfl (wn0 rfl) (fun R1 hR1 G => (y_nilCheck rfl)) ?_
     refine fj_val rfl rfl rfl (wn0 rfl) (fun R1 hR1 G => (y_fieldAddr (k := 1) Tryz.underlying116 rfl (n := 1) (by decide) Tryz.sizeOf31 rfl)) ?_
     refine fj_nil ?_
     refine xj_nil ?_
     try simp only [List.cons_append, List.nil_append, List.append_nil]
     refine rj_store_slc (v := v.vp) (ys := pairsV (x.setPeer to (x.nxt to, k1)).peers) ⟨Tryz.isAgg31, Tryz.sizeOf31⟩ (wn0 rfl) (j := m.frm.toNat * 2 + 1) (by rw [hvp, cellV_mk, ← Nat.add_assoc]; rfl) rfl rfl (by (repeat (first|exact zH _|apply zT));done) (by rw [pairs_len]; omega) (by rw [(pair_set x.peers to m.frm _ hfto htl).2, ← hk1]; rfl) (by omega) ?_
     refine rj_nil ?_
     refine hK11 _ _ _ ?_
     refine cj_env (eL 0 rfl (eL 3 rfl (eL 4 rfl eN))) ?_
     refine cj_seq (fun K12 hK12 => ?_)
     refine cj_region ?_
     refine rv0 rfl rfl rfl (y_move rfl) ?_
     refine rv0 rfl rfl rfl (y_move rfl) ?_
     refine rv0 rfl rfl rfl (y_nilCheck rfl) ?_
     refine rv0 rfl rfl rfl (y_fieldAddr (k := 1) Tryz.underlying116 rfl (n := 1) (by decide) Tryz.sizeOf31 rfl) ?_
     refine rv0 rfl rfl rfl ((y_load_slc (v := v.vp) ⟨Tryz.isAgg31, Tryz.sizeOf31⟩ (by rw [hvp, cellV_mk, ← Nat.add_assoc]; rfl) (by (repeat (first|exact zH _|apply zT));done) (show nth (pairsV (x.setPeer to (x.nxt to, k1)).peers) (m.frm.toNat * 2 + 1) = some (.int .u64 k1) by have h := (pair_nth (x.setPeer to (x.nxt to, k1)).peers to m.frm hfto (by show to < (x.peers.set to _).length; rw [List.length_set]; exact htl)).2; rw [show ((x.setPeer to (x.nxt to, k1)).peers.getD to (0, 0)) = (x.nxt to, k1) from set_getDp htl _] at h; exact h))) ?_
     refine rv0 rfl rfl rfl ((y_addu rfl rfl (by omega))) ?_
     refine rv0 rfl rfl rfl (y_nilCheck rfl) ?_
     refine rv0 rfl rfl rfl (y_fieldAddr (k := 0) Tryz.underlying116 rfl (n := 1) (by decide) Tryz.sizeOf31 rfl) ?_
     refine rj_store_slc (v := v.vp) (ys := pairsV (x.setPeer to (k1 + 1, k1)).peers) ⟨Tryz.isAgg31, Tryz.sizeOf31⟩ (wn0 rfl) (j := m.frm.toNat * 2 + 0) (by rw [hvp, cellV_mk, ← Nat.add_assoc]; rfl) rfl rfl (by (repeat (first|exact zH _|apply zT));done) (by rw [pairs_len]; show _ < (x.peers.set to _).length * 2; rw [List.length_set]; omega) (by rw [(pair_set (x.setPeer to (x.nxt to, k1)).peers to m.frm _ hfto (by show to < (x.peers.set to _).length; rw [List.length_set]; exact htl)).1]; show pairsV ((x.peers.set to _).set to (_, ((x.peers.set to _).getD to (0, 0)).2)) = _; rw [set_getDp htl, List.set_set]; rfl) (by omega) ?_
     refine rj_nil ?_
     refine hK12 _ _ _ ?_
     refine cj_env (eL 0 rfl (eL 3 rfl (eL 4 rfl eN))) ?_
     refine cj_seq (fun K13 hK13 => ?_)
     refine cj_region ?_
     refine rv0 rfl rfl rfl (y_move rfl) ?_
     obtain ⟨y2, hy2⟩ : ∃ y, y = x.setPeer to (k1 + 1, k1) := ⟨_, rfl⟩
     have hyn : NIn k y2 := by rw [hy2]; exact hx.setPeer to (by dsimp only; omega)
     have hyl : y2.peers.length = x.peers.length := by rw [hy2]; exact List.length_set
     refine rj_turn (A := slc 116 2 v.vp x.peers.length (pairsV (x.setPeer to (k1 + 1, k1)).peers)) (B := prA v y2) (by (repeat (first|exact zH _|apply zT));done) (fun h hh => by show slc _ _ _ y2.peers.length _ h; rw [hyl, hy2]; exact hh) ?_
     refine rj_turn (A := ndB b v x) (B := ndB b v y2) (by (repeat (first|exact zH _|apply zT));done) (fun h hh => by rw [hy2]; exact hh) ?_
     refine rj_turn (A := lgN b v x) (B := lgN b v y2) (by (repeat (first|exact zH _|apply zT));done) (fun h hh => by rw [hy2]; exact hh) ?_
     refine rj_turn (A := outA v x) (B := outA v y2) (by (repeat (first|exact zH _|apply zT));done) (fun h hh => by rw [hy2]; exact hh) ?_
     refine rj_turn (A := mpA v.vm x.votes) (B := mpA v.vm y2.votes) (by (repeat (first|exact zH _|apply zT));done) (fun h hh => by rw [hy2]; exact hh) ?_
     refine rj_call (wn0 rfl) rfl Tryz.call71 rfl (count_t b v y2 k (by omega) hyn (by rw [hy2]; exact hv.va) hv.vp (by rw [hyl, hy2]; exact hpl)) (by (repeat (first|exact zN _|(apply zS;focus (repeat (first|exact zH _|apply zT)))))) (fun _ _ _ _ h => h.elim) ?_
     rintro r R5 L' hR5 rfl
     have hyc := NIn.count (by omega) hyn
     rw [← hy2] at hN
     obtain ⟨c, hc⟩ := count_eq y2
     rw [hc] at hN hyc ⊢
     have hyv : NOk R5 v { y2 with commit := c } := by rw [hy2]; exact hv.to hR5 ⟨rfl, rfl, rfl⟩
     have hgy := hyc.g (by omega)
     have hn2 : nth (pairsV y2.peers) (m.frm.toNat * 2 + 0) = some (.int .u64 (k1 + 1)) := by have h := (pair_nth y2.peers to m.frm hfto (by omega)).1; rw [show (y2.peers.getD to (0, 0)) = (k1 + 1, k1) by rw [hy2]; exact set_getDp htl _] at h; exact h
     try simp only [List.cons_append, List.nil_append]
     refine rj_nil ?_
     refine hK13 _ _ _ ?_
     refine cj_seq (fun K14 hK14 => ?_)
     refine cj_draw (by kernel_rfl) (by kernel_rfl) ?_
     refine qj_val (wn0 rfl) rfl rfl (y_move rfl) ?_
     refine qj_val (wn0 rfl) rfl rfl (y_nilCheck rfl) ?_
     refine qj_val (wn0 rfl) rfl rfl (y_fieldAddr (k := 0) Tryz.underlying116 rfl (n := 1) (by decide) Tryz.sizeOf31 rfl) ?_
     refine qj_val (wn0 rfl) rfl rfl ((y_load_slc (v := v.vp) ⟨Tryz.isAgg31, Tryz.sizeOf31⟩ (by rw [hvp, cellV_mk, ← Nat.add_assoc]; rfl) (by (repeat (first|exact zH _|apply zT));done) hn2)) ?_
     refine qj_val (wn0 rfl) rfl rfl (y_move rfl) ?_
     refine qj_val (wn0 rfl) rfl rfl (y_nilCheck rfl) ?_
     refine qj_val (wn0 rfl) rfl rfl (y_fieldAddr (k := 2) Tryz.underlying81 rfl (n := 1) (by decide) Tryz.sizeOf44 rfl) ?_
     first | refine qj_val (wn0 rfl) rfl rfl (y_load ⟨Tryz.isAgg44, Tryz.sizeOf44⟩ rfl (by (repeat (first|exact zH _|apply zT));done) rfl) ?_ | refine qj_val (wn0 rfl) rfl rfl (y_load_slc ⟨Tryz.isAgg44, Tryz.sizeOf44⟩ rfl (by (repeat (first|exact zH _|apply zT));done) rfl) ?_
     refine qj_val (wn0 rfl) rfl rfl (y_call Tryz.call19 rfl (lgLast_q b.l (some ⟨b.d, 0, none⟩) v.va y2.g hgy hyv.va) (by (repeat (first|exact zN _|(apply zS;focus (repeat (first|exact zH _|apply zT))))))) ?_
     refine qj_val (wn0 rfl) rfl rfl (y_leq rfl rfl) ?_
     refine qj_nil ?_
     refine hK14 _ _ _ ?_
     refine cj_env (eL 0 rfl (eL 3 rfl (eL 87 rfl eN))) ?_
     refine cj_cond rfl (fun hc87 => ?_) (fun hc87 => ?_)
     ·have f4 : k1 + 1 ≤ y2.g.last := by simpa using hc87
      rw [if_pos f4] at hN
      have hft := feed_t (R := R5) b v { y2 with commit := c } k (by omega) hyc hyv to (by show to < y2.peers.length; omega)
      rw [← hfto] at hft
      refine cj_region ?_
      refine rv0 rfl rfl rfl (y_move rfl) ?_
      refine rv0 rfl rfl rfl (y_fieldAddr (k := 1) Tryz.underlying48 rfl (n := 1) (by decide) Tryz.sizeOf3 rfl) ?_
      first | refine rv0 rfl rfl rfl (y_load ⟨Tryz.isAgg3, Tryz.sizeOf3⟩ rfl (by (repeat (first|exact zH _|apply zT));done) rfl) ?_ | refine rv0 rfl rfl rfl (y_load_slc ⟨Tryz.isAgg3, Tryz.sizeOf3⟩ rfl (by (repeat (first|exact zH _|apply zT));done) rfl) ?_
      refine rj_call (wn0 rfl) rfl Tryz.call35 rfl (hft) (by (repeat (first|exact zN _|(apply zS;focus (repeat (first|exact zH _|apply zT)))))) (fun _ _ _ _ h => h.elim) ?_
      rintro r R6 L' hR6 ⟨vo, css, hels, hvo2, rfl⟩
      have hR56 := Hp.le_trans hR5 hR6
      try simp only [List.cons_append, List.nil_append]
      refine rj_nil ?_
      refine hend _ _ _ ?_
      apply ej_end Tryz.results44 .nil _ (ndL b (v.sent vo css) (ND.feed { y2 with commit := c } to) D) (by first | exact Hp.le_refl _ | assumption) rfl
      case hp => rw [hN]; exact ⟨rfl, _, hyv.sent (y := ND.feed { y2 with commit := c } to) hR6 ⟨rfl, rfl⟩ hels hvo2, rfl⟩
      case hS => (repeat (first|exact zR _|(apply zP;focus (repeat (first|exact zH _|apply zT)))|apply zD|exact zA _ _))
     ·have f4 : ¬ k1 + 1 ≤ y2.g.last := by simpa using hc87
      rw [if_neg f4] at hN
      refine cj_skip ?_
      refine hend _ _ _ ?_
      apply ej_end Tryz.results44 .nil _ (ndL b v { y2 with commit := c } D) (by first | exact Hp.le_refl _ | assumption) rfl
      case hp => rw [hN]; exact ⟨rfl, _, hyv, rfl⟩
      case hS => (repeat (first|exact zR _|(apply zP;focus (repeat (first|exact zH _|apply zT)))|apply zD|exact zA _ _))
end V
end Go.Proofs.YtjdbigplednihaaGreat
set_option linter.unusedSimpArgs false
set_option linter.unusedVariables false
set_option maxRecDepth 100000
namespace Go.Proofs.YtjdbigplednihaaGreat
open Go.RowKit
namespace V
set_option maxHeartbeats 4000000
theorem fits_yes {g : LG} {e : Ent} {l : List Ent} {i : Int} (h : (g.at i).map (·.1) = some e.1) : ND.fits g (e :: l) i = ND.fits g l (i + 1) := by show (if _ then _ else _) = _; rw [if_pos h]
theorem fits_no {g : LG} {e : Ent} {l : List Ent} {i : Int} (h : ¬ (g.at i).map (·.1) = some e.1) : ND.fits g (e :: l) i = some (i, e :: l) := by show (if _ then _ else _) = _; rw [if_neg h]
theorem NIn.commits {k : Nat} {x : ND} (h : NIn k x) (m : Msg) (hm : 0 ≤ m.commit) {last : Int} (hl : 0 ≤ last ∧ last ≤ 150000000000000) : NIn k (x.commits m last) :=
  ⟨h.idn, h.term, h.vote, h.base, h.baseT, h.state, h.alln, h.all, by have := h.commit; show 0 ≤ max x.commit (min m.commit last) ∧ max x.commit (min m.commit last) ≤ _; omega, h.patience, h.peers, h.peer, h.votes, h.out⟩
theorem cutM_b {k : Nat} {x : ND} {m : Msg} (hx : NIn k x) (hm : MIn k x.n m) : (0 ≤ (x.cutM m).1 ∧ (x.cutM m).1 ≤ 100000000000000) ∧ (x.cutM m).2.length ≤ 20 ∧ ∀ e ∈ (x.cutM m).2, (0 ≤ e.1 ∧ e.1 ≤ 2305843009213693952 + k) ∧ e.2.length ≤ 100 := by
  have h1 := hx.base
  have h2 := hm.index
  have h3 := hm.es
  unfold ND.cutM
  split
  · exact ⟨h1, by simp; omega, fun e he => h3.2 e (List.mem_of_mem_drop he)⟩
  · exact ⟨h2, h3⟩
theorem termAt_some {g : LG} {i t : Int} : ¬ g.termAt i = some t ↔ (g.termAt i).isSome = false ∨ ¬ (g.termAt i).getD 0 = t := by
  cases g.termAt i <;> simp
theorem ents_small {l : List Ent} (h : l.length ≤ 20) (hb : ∀ e ∈ l, e.2.length ≤ 100) : entsLen l ≤ 16000000 := by
  have : ∀ (l : List Ent), (∀ e ∈ l, e.2.length ≤ 100) → entsLen l ≤ 120 * l.length := by
    intro l
    induction l with
    | nil => intro _; simp [entsLen]
    | cons e l ih =>
      intro h
      have h1 := ih (fun x hx => h x (by simp [hx]))
      have h2 := h e (by simp)
      simp [entsLen] at h1 ⊢; omega
  have := this l hb
  omega
def restN (x : ND) (D : DK) (m : Msg) (c : Int × List Ent) : Bool × NS := match ND.fits x.g c.2 (c.1 + 1) with
  | none => (true, ((x.commits m (c.1 + c.2.length)).answer m true (c.1 + c.2.length), D))
  | some (i, l) => if i ≤ x.commit then (true, (x, D)) else bindN (mustN (x, D) (x.g.addD D (i - 1) l)) fun s => (true, ((s.1.commits m (c.1 + c.2.length)).answer m true (c.1 + c.2.length), s.2))
theorem addN_eq {x : ND} {D : DK} {m : Msg} (h1 : ¬ (m.index < x.g.base ∧ (m.es.length : Int) < x.g.base - m.index)) (h2 : ¬ (¬ m.index < x.g.base ∧ ¬ x.g.termAt m.index = some m.logTerm)) :
    addN (x, D) m = restN x D m (x.cutM m) := by
  unfold addN
  rw [if_neg h1, if_neg h2]
  rfl
theorem restN_none {x : ND} {D : DK} {m : Msg} {bh : Int} {l : List Ent} (h : ND.fits x.g l (bh + 1) = none) : restN x D m (bh, l) = (true, ((x.commits m (bh + l.length)).answer m true (bh + l.length), D)) := by
  unfold restN; simp only [h]
theorem restN_some {x : ND} {D : DK} {m : Msg} {bh i : Int} {l l2 : List Ent} (h : ND.fits x.g l (bh + 1) = some (i, l2)) : restN x D m (bh, l) = if i ≤ x.commit then (true, (x, D)) else bindN (mustN (x, D) (x.g.addD D (i - 1) l2)) fun s => (true, ((s.1.commits m (bh + l.length)).answer m true (bh + l.length), s.2)) := by
  unfold restN; simp only [h]
theorem drop_cons {α : Type} {l : List α} {i : Nat} {e : α} (h : l[i]? = some e) : l.drop i = e :: l.drop (i + 1) := by
  have hi := (List.getElem?_eq_some_iff.1 h).1
  rw [List.drop_eq_getElem_cons hi]
  rw [List.getElem?_eq_getElem hi] at h
  cases h; rfl
theorem add_t {R : Hp} (b : NB) (v : NV) (x : ND) (D : DK) (m : Msg) (ve : Value) (k n : Nat) (hk : k ≤ 50) (hx : NIn k x) (hv : NOk R v x) (hm : MIn k x.n m) (hve : FrX entE R m.es ve) (hD : D.ok n) (hn : n ≤ 800000000) :
    Tri Tryz.prog 69 [.pointer (some ⟨b.x, 0, none⟩), .agg ⟨msgC m ve⟩] R (ndL b v x D) (NRet b (addN (x, D) m)) (NPan b (addN (x, D) m)) := by
  have hidn := hx.idn
  have hveo := hve.one
  have hidx := hm.index
  have hbs := hx.base
  have hob := hx.out
  have hes := hm.es
  have hg := hx.g (by omega)
  have hlb := LG.last_b hg
  have hcm := hm.commit
  have hco := hx.commit
  obtain ⟨hc1, hc2, hc3⟩ := cutM_b hx hm
  obtain ⟨qe, ce, rfl, hqe1, hqe2⟩ := hve.shape
  have hva := hv.va
  have hterm := hx.term
  refine tri_of Tryz.func69 rfl Tryz.ntmps69 rfl (fun σ F Q hret hend hpan => ?_)
  try simp only [List.cons_append, List.nil_append]
  refine cj_env (eL 0 rfl (eL 1 rfl eN)) ?_
  refine cj_seq (fun K1 hK1 => ?_)
  refine cj_region ?_
  refine rj_box (wn0 rfl) rfl rfl rfl (fun b3 => ?_)
  refine rj_nil ?_
  refine hK1 _ _ _ ?_
  refine cj_seq (fun K2 hK2 => ?_)
  refine cj_draw (by kernel_rfl) (by kernel_rfl) ?_
  refine qj_val (wn0 rfl) rfl rfl (y_fieldAddr (k := 4) Tryz.underlying48 rfl (n := 1) (by decide) Tryz.sizeOf31 rfl) ?_
  first | refine qj_val (wn0 rfl) rfl rfl (y_load ⟨Tryz.isAgg31, Tryz.sizeOf31⟩ rfl (by (repeat (first|exact zH _|apply zT));done) rfl) ?_ | refine qj_val (wn0 rfl) rfl rfl (y_load_slc ⟨Tryz.isAgg31, Tryz.sizeOf31⟩ rfl (by (repeat (first|exact zH _|apply zT));done) rfl) ?_
  refine qj_val (wn0 rfl) rfl rfl (y_fieldAddr (k := 8) Tryz.underlying48 rfl (n := 1) (by decide) Tryz.sizeOf32 rfl) ?_
  first | refine qj_val (wn0 rfl) rfl rfl (y_load ⟨Tryz.isAgg32, Tryz.sizeOf32⟩ rfl (by (repeat (first|exact zH _|apply zT));done) rfl) ?_ | refine qj_val (wn0 rfl) rfl rfl (y_load_slc ⟨Tryz.isAgg32, Tryz.sizeOf32⟩ rfl (by (repeat (first|exact zH _|apply zT));done) rfl) ?_
  refine qj_val (wn0 rfl) rfl rfl (y_assign rfl) ?_
  refine qj_val (wn0 rfl) rfl rfl (y_assign rfl) ?_
  refine qj_nil ?_
  refine hK2 _ _ _ ?_
  refine cj_env (eL 0 rfl (eL 3 rfl (eL 4 rfl (eL 5 rfl eN)))) ?_
  refine cj_seq (fun K3 hK3 => ?_)
  have hJ11 : ∀ (x1 : Int × List Ent × Value), (x1.1, x1.2.1) = x.cutM m ∧ FrX entE R x1.2.1 x1.2.2 ∧ addN (x, D) m = restN x D m (x1.1, x1.2.1) → EJ ⟨Tryz.prog, 150, σ⟩ K3 [(0, .pointer (some ⟨b.x, 0, none⟩)), (3, .pointer (some ⟨b3, 0, none⟩)), (4, .int .u64 x1.1), (5, x1.2.2)] R (blk b3 (msgC m (.slice qe m.es.length ce)) 48 :: ndB b v x :: lgN b v x :: dkB b.d v.u D :: dkS v.u D :: prA v x :: mpA v.vm x.votes :: outA v x :: F) := by
   rintro ⟨bh, l, vl⟩ ⟨hcut, hl, hnot⟩
   try dsimp only
   dsimp only at hcut hl hnot
   have hbh := hc1
   rw [← hcut] at hbh hc2 hc3
   dsimp only at hbh hc2 hc3
   obtain ⟨ql, cl, rfl, hql1, hql2⟩ := hl.shape
   refine hK3 _ _ _ ?_
   refine cj_seq (fun K4 hK4 => ?_)
   refine cj_region ?_
   refine rv0 rfl rfl rfl (y_move rfl) ?_
   refine rv0 rfl rfl rfl (y_move rfl) ?_
   first | refine rv0 rfl rfl rfl (y_len_sl Tryz.underlying32 rfl) ?_ | refine rv0 rfl rfl rfl (y_len_slc Tryz.underlying32 rfl (by (repeat (first|exact zH _|apply zT));done)) ?_
   refine rv0 rfl rfl rfl ((y_conv_in Tryz.underlying3 Tryz.underlying31 rfl (by (simp only [IntKind.min, IntKind.max, IntKind.signed, IntKind.bits, Bool.false_eq_true, ite_false, ite_true]; omega)))) ?_
   refine rv0 rfl rfl rfl ((y_addu rfl rfl (by omega))) ?_
   refine rv0 rfl rfl rfl (y_assign rfl) ?_
   refine rj_nil ?_
   refine hK4 _ _ _ ?_
   refine cj_env (eL 0 rfl (eL 3 rfl (eL 4 rfl (eL 5 rfl (eL 12 rfl eN))))) ?_
   refine cj_seq (fun K5 hK5 => ?_)
   have hJ21 : ∀ (x2 : ND × NV × DK × Hp), NIn (k + 1) x2.1 ∧ NOk x2.2.2.2 x2.2.1 x2.1 ∧ R.le x2.2.2.2 ∧ addN (x, D) m = (true, ((x2.1.commits m (bh + l.length)).answer m true (bh + l.length), x2.2.2.1)) → EJ ⟨Tryz.prog, 150, σ⟩ K5 [(0, .pointer (some ⟨b.x, 0, none⟩)), (3, .pointer (some ⟨b3, 0, none⟩)), (12, .int .u64 (bh + (l.length : Int)))] x2.2.2.2 (blk b3 (msgC m (.slice qe m.es.length ce)) 48 :: ndB b x2.2.1 x2.1 :: lgN b x2.2.1 x2.1 :: dkB b.d x2.2.1.u x2.2.2.1 :: dkS x2.2.1.u x2.2.2.1 :: prA x2.2.1 x2.1 :: mpA x2.2.1.vm x2.1.votes :: outA x2.2.1 x2.1 :: F) := by
    rintro ⟨y, v2, D2, R2⟩ ⟨hy, hv2, hR2, hF⟩
    try dsimp only
    dsimp only at hy hv2 hR2 hF
    have hyo := hy.out
    have hyc := hy.commits m hcm.1 (last := bh + l.length) (by omega)
    refine hK5 _ _ _ ?_
    refine cj_seq (fun K6 hK6 => ?_)
    refine cj_mixg (L := [blk b3 (msgC m (.slice qe m.es.length ce)) 48, ndB b v2 y]) [0, 1, 2, 3, 4, 5, 6, 7, 8, 9, 10, 11] [] [12] _ (by (repeat (first|exact zR _|(apply zP;focus (repeat (first|exact zH _|apply zT)))|apply zD|exact zA _ _))) (by kernel_rfl) (by kernel_rfl) (by kernel_rfl) rfl ?_
    refine fj_val rfl rfl rfl (wn0 rfl) (fun R1 hR1 G => (y_move rfl)) ?_
    refine fj_val rfl rfl rfl (wn0 rfl) (fun R1 hR1 G => (y_move rfl)) ?_
    refine fj_val rfl rfl rfl (wn0 rfl) (fun R1 hR1 G => (y_nilCheck rfl)) ?_
    refine fj_val rfl rfl rfl (wn0 rfl) (fun R1 hR1 G => (y_fieldAddr (k := 5) Tryz.underlying81 rfl (n := 1) (by decide) Tryz.sizeOf31 rfl)) ?_
    first | refine fj_val rfl rfl rfl (wn0 rfl) (fun R1 hR1 G => (y_load ⟨Tryz.isAgg31, Tryz.sizeOf31⟩ rfl (by (repeat (first|exact zH _|apply zT));done) rfl)) ?_ | refine fj_val rfl rfl rfl (wn0 rfl) (fun R1 hR1 G => (y_load_slc ⟨Tryz.isAgg31, Tryz.sizeOf31⟩ rfl (by (repeat (first|exact zH _|apply zT));done) rfl)) ?_
    refine fj_val rfl rfl rfl (wn0 rfl) (fun R1 hR1 G => (y_fieldAddr (k := 6) Tryz.underlying48 rfl (n := 1) (by decide) Tryz.sizeOf31 rfl)) ?_
    first | refine fj_val rfl rfl rfl (wn0 rfl) (fun R1 hR1 G => (y_load ⟨Tryz.isAgg31, Tryz.sizeOf31⟩ rfl (by (repeat (first|exact zH _|apply zT));done) rfl)) ?_ | refine fj_val rfl rfl rfl (wn0 rfl) (fun R1 hR1 G => (y_load_slc ⟨Tryz.isAgg31, Tryz.sizeOf31⟩ rfl (by (repeat (first|exact zH _|apply zT));done) rfl)) ?_
    refine fj_val rfl rfl rfl (wn0 rfl) (fun R1 hR1 G => (y_move rfl)) ?_
    refine fj_val rfl rfl rfl (wn0 rfl) (fun R1 hR1 G => (y_min rfl rfl)) ?_
    refine fj_val rfl rfl rfl (wn0 rfl) (fun R1 hR1 G => (y_max rfl rfl)) ?_
    refine fj_val rfl rfl rfl (wn0 rfl) (fun R1 hR1 G => (y_nilCheck rfl)) ?_
    refine fj_val rfl rfl rfl (wn0 rfl) (fun R1 hR1 G => (y_fieldAddr (k := 5) Tryz.underlying81 rfl (n := 1) (by decide) Tryz.sizeOf31 rfl)) ?_
    refine fj_nil ?_
    refine xj_nil ?_
    try simp only [List.cons_append, List.nil_append, List.append_nil]
    refine rj_store ⟨Tryz.isAgg31, Tryz.sizeOf31⟩ (wn0 rfl) rfl rfl (by (first | rfl | assumption | (apply cutV_one; assumption))) (by (repeat (first|exact zH _|apply zT));done) rfl rfl ?_
    refine rj_nil ?_
    refine hK6 _ _ _ ?_
    refine cj_env (eL 0 rfl (eL 3 rfl (eL 12 rfl eN))) ?_
    refine cj_region ?_
    refine rv0 rfl rfl rfl (y_move rfl) ?_
    first | refine rv0 rfl rfl rfl (y_loads_blk ⟨Tryz.isAgg48, Tryz.sizeOf48⟩ rfl (by (repeat (first|exact zH _|apply zT));done) rfl rfl) ?_ | refine rv0 rfl rfl rfl (y_loads_slc ⟨Tryz.isAgg48, Tryz.sizeOf48⟩ rfl (by (repeat (first|exact zH _|apply zT));done) rfl rfl (by (first | omega | (dsimp only; omega) | (simp; done) | (simp; omega)))) ?_
    refine rv0 rfl rfl rfl (y_move rfl) ?_
    refine rj_call (wn0 rfl) rfl Tryz.call68 rfl (answer_t b v2 (y.commits m (bh + l.length)) m (.slice qe m.es.length ce) true (bh + l.length) hv2.out hv2.vo (by show y.out.length ≤ _; omega) hveo) (by (repeat (first|exact zN _|(apply zS;focus (repeat (first|exact zH _|apply zT)))))) (fun _ _ _ _ h => h.elim) ?_
    rintro r R6 L' hR6 ⟨vo, css, hels, hvo2, rfl⟩
    have hR26 := Hp.le_trans hR2 hR6
    try simp only [List.cons_append, List.nil_append]
    refine rj_nil ?_
    refine hend _ _ _ ?_
    apply ej_end Tryz.results69 .nil _ (ndL b (v2.sent vo css) ((y.commits m (bh + l.length)).answer m true (bh + l.length)) D2) (by first | exact Hp.le_refl _ | assumption) rfl
    case hp => rw [hF]; exact ⟨rfl, _, hv2.sent (y := (y.commits m (bh + l.length)).answer m true (bh + l.length)) hR6 ⟨rfl, rfl⟩ hels hvo2, rfl⟩
    case hS => (repeat (first|exact zR _|(apply zP;focus (repeat (first|exact zH _|apply zT)))|apply zD|exact zA _ _))
   refine cj_seq (fun K7 hK7 => ?_)
   refine cj_region ?_
   refine rv0 rfl rfl rfl (y_move rfl) ?_
   first | refine rv0 rfl rfl rfl (y_len_sl Tryz.underlying32 rfl) ?_ | refine rv0 rfl rfl rfl (y_len_slc Tryz.underlying32 rfl (by (repeat (first|exact zH _|apply zT));done)) ?_
   refine rv0 rfl rfl rfl (y_move rfl) ?_
   refine rj_nil ?_
   refine hK7 _ _ _ ?_
   refine cj_block ?_
   refine cj_env (E' := (fun (x3 : Nat) => [(0, .pointer (some ⟨b.x, 0, none⟩)), (3, .pointer (some ⟨b3, 0, none⟩)), (4, .int .u64 bh), (5, .slice ql l.length cl), (12, .int .u64 (bh + (l.length : Int))), (86, .slice ql l.length cl), (87, .int .i64 (l.length : Int)), (88, .int .i64 (x3 : Int))]) 0) (eC rfl (eC rfl (eC rfl (eC rfl (eC rfl (eC rfl (eC rfl (eC rfl eN)))))))) ?_
   refine cj_sub (M := (fun (x3 : Nat) => blk b3 (msgC m (.slice qe m.es.length ce)) 48 :: ndB b v x :: lgN b v x :: dkB b.d v.u D :: dkS v.u D :: prA v x :: mpA v.vm x.votes :: outA v x :: F) 0) (by (repeat (first|exact zR _|(apply zP;focus (repeat (first|exact zH _|apply zT)))|apply zD|exact zA _ _))) ?_
   refine cj_loop (fun (x3 : Nat) => [(0, .pointer (some ⟨b.x, 0, none⟩)), (3, .pointer (some ⟨b3, 0, none⟩)), (4, .int .u64 bh), (5, .slice ql l.length cl), (12, .int .u64 (bh + (l.length : Int))), (86, .slice ql l.length cl), (87, .int .i64 (l.length : Int)), (88, .int .i64 (x3 : Int))]) (fun (x3 : Nat) => R) (fun (x3 : Nat) => blk b3 (msgC m (.slice qe m.es.length ce)) 48 :: ndB b v x :: lgN b v x :: dkB b.d v.u D :: dkS v.u D :: prA v x :: mpA v.vm x.votes :: outA v x :: F) (fun (x3 : Nat) => x3 ≤ l.length ∧ ND.fits x.g l (bh + 1) = ND.fits x.g (l.drop x3) (bh + 1 + x3)) (fun (x3 : Nat) => l.length - x3) 0 (⟨by simp, by simp⟩) ?_
   rintro i ⟨hi, hfk⟩
   try dsimp only
   refine cj_seq (fun K8 hK8 => ?_)
   refine cj_region ?_
   refine rv0 rfl rfl rfl (y_lss rfl rfl) ?_
   refine rj_nil ?_
   refine hK8 _ _ _ ?_
   refine cj_seq (fun K9 hK9 => ?_)
   refine cj_cond rfl (fun hc89 => ?_) (fun hc89 => ?_)
   ·try simp only [dT, dF, nT, nF, tF, fT] at hc89
    refine cj_skip ?_
    refine hK9 _ _ _ ?_
    refine cj_seq (fun K11 hK11 => ?_)
    refine cj_block ?_
    refine cj_seq (fun K12 hK12 => ?_)
    refine cj_region ?_
    have hin : i < l.length := by (try simp at hc89); omega
    obtain ⟨e, he⟩ : ∃ e, l[i]? = some e := ⟨_, List.getElem?_eq_getElem hin⟩
    obtain ⟨be, oe, ce', cse, hee, rfl, _, hcell⟩ := hl.at he
    obtain ⟨rfl, rfl⟩ : ql = some ⟨be, oe, none⟩ ∧ cl = ce' := by cases hee; exact ⟨rfl, rfl⟩
    have hat := lgAt_q (R := R) b.l (some ⟨b.d, 0, none⟩) v.va x.g hg hva (bh + 1 + i) (by unfold u64B; omega)
    obtain ⟨eo, ok, hev, hok1, hok2⟩ := entV_cases (x.g.at (bh + 1 + i))
    have heb := hc3 e (List.mem_of_getElem? he)
    refine rv0 rfl rfl rfl (y_move rfl) ?_
    first | refine rv0 rfl rfl rfl (y_indexAddr Tryz.underlying32 Tryz.sizeOf60 rfl rfl (by (first | omega | (dsimp only; omega) | (simp; done) | (simp; omega)))) ?_ | refine rv0 rfl rfl rfl (y_index_slc Tryz.underlying32 Tryz.sizeOf60 rfl rfl (by (repeat (first|exact zH _|apply zT));done) (by (first | omega | (dsimp only; omega) | (simp; done) | (simp; omega)))) ?_
    refine rv0 rfl rfl rfl ((y_loads_ro ⟨Tryz.isAgg60, Tryz.sizeOf60⟩ (vs := entC e) rfl rfl (fun j u hj => hcell j u hj))) ?_
    refine rj_alloc (wn0 rfl) rfl Tryz.zeroValue60 rfl (fun b14 => ?_)
    refine rv0 rfl rfl rfl (y_assign rfl) ?_
    refine rj_stores_all (vs := entC e) ⟨Tryz.isAgg60, Tryz.sizeOf60⟩ rfl (wn0 rfl) rfl rfl (entE.one (R := R) (x := e) rfl) (by (repeat (first|exact zH _|apply zT));done) rfl ?_
    refine rj_nil ?_
    refine hK12 _ _ _ ?_
    refine cj_env (eL 0 rfl (eL 3 rfl (eL 4 rfl (eL 5 rfl (eL 12 rfl (eL 13 rfl (eL 14 rfl (eL 86 rfl (eL 87 rfl (eL 88 rfl eN)))))))))) ?_
    refine cj_seq (fun K13 hK13 => ?_)
    refine cj_region ?_
    refine rv0 rfl rfl rfl (y_move rfl) ?_
    refine rv0 rfl rfl rfl ((y_addu rfl rfl (by omega))) ?_
    refine rv0 rfl rfl rfl (y_move rfl) ?_
    refine rv0 rfl rfl rfl ((y_conv_in Tryz.underlying3 Tryz.underlying31 rfl (by (simp only [IntKind.min, IntKind.max, IntKind.signed, IntKind.bits, Bool.false_eq_true, ite_false, ite_true]; omega)))) ?_
    refine rv0 rfl rfl rfl ((y_addu rfl rfl (by omega))) ?_
    refine rv0 rfl rfl rfl (y_assign rfl) ?_
    refine rj_nil ?_
    refine hK13 _ _ _ ?_
    refine cj_env (eL 0 rfl (eL 3 rfl (eL 4 rfl (eL 5 rfl (eL 12 rfl (eL 13 rfl (eL 14 rfl (eL 15 rfl (eL 86 rfl (eL 87 rfl (eL 88 rfl eN))))))))))) ?_
    refine cj_seq (fun K14 hK14 => ?_)
    refine cj_seq (fun K15 hK15 => ?_)
    refine cj_region ?_
    refine rv0 rfl rfl rfl (y_move rfl) ?_
    refine rv0 rfl rfl rfl (y_nilCheck rfl) ?_
    refine rv0 rfl rfl rfl (y_fieldAddr (k := 2) Tryz.underlying81 rfl (n := 1) (by decide) Tryz.sizeOf44 rfl) ?_
    first | refine rv0 rfl rfl rfl (y_load ⟨Tryz.isAgg44, Tryz.sizeOf44⟩ rfl (by (repeat (first|exact zH _|apply zT));done) rfl) ?_ | refine rv0 rfl rfl rfl (y_load_slc ⟨Tryz.isAgg44, Tryz.sizeOf44⟩ rfl (by (repeat (first|exact zH _|apply zT));done) rfl) ?_
    refine rv0 rfl rfl rfl (y_move rfl) ?_
    refine rv0 rfl rfl rfl (y_call Tryz.call20 rfl (hat) (by (repeat (first|exact zN _|(apply zS;focus (repeat (first|exact zH _|apply zT))))))) ?_
    refine rj_eq 104 rfl (v' := tupOf [.agg ⟨entC eo⟩, .bool ok]) hev ?_
    refine rv0 rfl rfl rfl (y_move rfl) ?_
    refine rv0 rfl rfl rfl (y_extract rfl rfl) ?_
    refine rv0 rfl rfl rfl (y_extract rfl rfl) ?_
    refine rj_alloc (wn0 rfl) rfl Tryz.zeroValue60 rfl (fun b16 => ?_)
    refine rj_stores_all (vs := entC eo) ⟨Tryz.isAgg60, Tryz.sizeOf60⟩ rfl (wn0 rfl) rfl rfl (entE.one (R := R) (x := eo) rfl) (by (repeat (first|exact zH _|apply zT));done) rfl ?_
    refine rv0 rfl rfl rfl (y_assign rfl) ?_
    refine rj_nil ?_
    refine hK15 _ _ _ ?_
    refine cj_env (eL 0 rfl (eL 3 rfl (eL 4 rfl (eL 5 rfl (eL 12 rfl (eL 13 rfl (eL 14 rfl (eL 15 rfl (eL 16 rfl (eL 17 rfl (eL 86 rfl (eL 87 rfl (eL 88 rfl eN))))))))))))) ?_
    refine cj_seq (fun K16 hK16 => ?_)
    refine cj_region ?_
    refine rv0 rfl rfl rfl (y_move rfl) ?_
    refine rv0 rfl rfl rfl (y_move rfl) ?_
    refine rj_part 108 rfl (fun hg108 => ?_) (fun hg108 => ?_)
    ·have g1 := hok1 (by simpa using hg108)
     refine rj_val (wn1 rfl rfl rfl rfl) rfl rfl (y_fieldAddr (k := 0) Tryz.underlying60 rfl (n := 1) (by decide) Tryz.sizeOf31 rfl) ?_
     first | refine rj_val (wn1 rfl rfl rfl rfl) rfl rfl (y_load ⟨Tryz.isAgg31, Tryz.sizeOf31⟩ rfl (by (repeat (first|exact zH _|apply zT));done) rfl) ?_ | refine rj_val (wn1 rfl rfl rfl rfl) rfl rfl (y_load_slc ⟨Tryz.isAgg31, Tryz.sizeOf31⟩ rfl (by (repeat (first|exact zH _|apply zT));done) rfl) ?_
     refine rj_val (wn1 rfl rfl rfl rfl) rfl rfl (y_fieldAddr (k := 0) Tryz.underlying60 rfl (n := 1) (by decide) Tryz.sizeOf31 rfl) ?_
     first | refine rj_val (wn1 rfl rfl rfl rfl) rfl rfl (y_load ⟨Tryz.isAgg31, Tryz.sizeOf31⟩ rfl (by (repeat (first|exact zH _|apply zT));done) rfl) ?_ | refine rj_val (wn1 rfl rfl rfl rfl) rfl rfl (y_load_slc ⟨Tryz.isAgg31, Tryz.sizeOf31⟩ rfl (by (repeat (first|exact zH _|apply zT));done) rfl) ?_
     refine rj_val (wn1 rfl rfl rfl rfl) rfl rfl (y_eql rfl rfl) ?_
     refine rv0 rfl rfl rfl (y_pick_t rfl rfl) ?_
     refine rj_nil ?_
     refine hK16 _ _ _ ?_
     refine cj_env (eL 0 rfl (eL 3 rfl (eL 4 rfl (eL 5 rfl (eL 12 rfl (eL 13 rfl (eL 15 rfl (eL 86 rfl (eL 87 rfl (eL 88 rfl (eL 114 rfl eN))))))))))) ?_
     refine cj_cond rfl (fun hc114 => ?_) (fun hc114 => ?_)
     ·first|(have hyes : (x.g.at (bh + 1 + i)).map (·.1) = some e.1 := by rw [g1]; simpa using hc114)|skip
      refine cj_exit ?_
      refine hK11 _ _ _ ?_
      refine cj_env (eL 0 rfl (eL 3 rfl (eL 4 rfl (eL 5 rfl (eL 12 rfl (eL 86 rfl (eL 87 rfl (eL 88 rfl eN)))))))) ?_
      refine cj_region ?_
      first | refine rv0 rfl rfl rfl (y_add64 rfl rfl (by (first | omega | (dsimp only; omega) | (simp; done) | (simp; omega)))) ?_ | refine rv0 rfl rfl rfl (y_add rfl rfl) ?_
      refine rv0 rfl rfl rfl (y_move rfl) ?_
      refine rj_nil ?_
      refine ej_on (q' := roundK _ _ _ _ _ _ _) rfl ?_
      refine ej_round (i + 1) (⟨by omega, by rw [hfk, drop_cons he, fits_yes hyes]; congr 1; omega⟩) (by omega) (eC rfl (eC rfl (eC rfl (eC rfl (eC rfl (eC rfl (eC rfl (eC rfl eN)))))))) rfl (by (repeat (first|exact zR _|(apply zP;focus (repeat (first|exact zH _|apply zT)))|apply zD|exact zA _ _)))
     ·first|(have hno : ¬ (x.g.at (bh + 1 + i)).map (·.1) = some e.1 := by rw [g1]; simpa using hc114)|skip
      refine cj_skip ?_
      refine hK14 _ _ _ ?_
      refine cj_env (eL 0 rfl (eL 3 rfl (eL 5 rfl (eL 12 rfl (eL 13 rfl (eL 15 rfl eN)))))) ?_
      refine cj_seq (fun K18 hK18 => ?_)
      refine cj_seq (fun K19 hK19 => ?_)
      have hfs : addN (x, D) m = if bh + 1 + i ≤ x.commit then (true, (x, D)) else bindN (mustN (x, D) (x.g.addD D (bh + 1 + i - 1) (l.drop i))) fun s => (true, ((s.1.commits m (bh + l.length)).answer m true (bh + l.length), s.2)) := by rw [hnot, restN_some (by rw [hfk, drop_cons he, fits_no hno])]; rw [drop_cons he]
      refine cj_region ?_
      refine rv0 rfl rfl rfl (y_move rfl) ?_
      refine rv0 rfl rfl rfl (y_move rfl) ?_
      refine rv0 rfl rfl rfl (y_nilCheck rfl) ?_
      refine rv0 rfl rfl rfl (y_fieldAddr (k := 5) Tryz.underlying81 rfl (n := 1) (by decide) Tryz.sizeOf31 rfl) ?_
      first | refine rv0 rfl rfl rfl (y_load ⟨Tryz.isAgg31, Tryz.sizeOf31⟩ rfl (by (repeat (first|exact zH _|apply zT));done) rfl) ?_ | refine rv0 rfl rfl rfl (y_load_slc ⟨Tryz.isAgg31, Tryz.sizeOf31⟩ rfl (by (repeat (first|exact zH _|apply zT));done) rfl) ?_
      refine rv0 rfl rfl rfl (y_leq rfl rfl) ?_
      refine rj_nil ?_
      refine hK19 _ _ _ ?_
      refine cj_env (eL 0 rfl (eL 3 rfl (eL 5 rfl (eL 12 rfl (eL 13 rfl (eL 15 rfl (eL 120 rfl eN))))))) ?_
      refine cj_cond rfl (fun hc120 => ?_) (fun hc120 => ?_)
      ·have g2 : bh + 1 + i ≤ x.commit := by simpa using hc120
       rw [if_pos g2] at hfs
       refine cj_ret ?_
       refine hret _ _ _ ?_
       apply ej_ret Tryz.results69 .nil _ (ndL b v x D) (by first | exact Hp.le_refl _ | assumption) rfl
       case hp => rw [hfs]; exact ⟨rfl, v, hv, rfl⟩
       case hS => (repeat (first|exact zR _|(apply zP;focus (repeat (first|exact zH _|apply zT)))|apply zD|exact zA _ _))
      ·have g2 : ¬ bh + 1 + i ≤ x.commit := by simpa using hc120
       rw [if_neg g2] at hfs
       obtain ⟨ra, hra⟩ : ∃ r, r = x.g.addD D (bh + 1 + i - 1) (l.drop i) := ⟨_, rfl⟩
       rw [← hra] at hfs
       have hAs := hfs
       have hsd := hl.sub (a := i) (b := l.length) (by omega) (by omega)
       rw [List.take_of_length_le (by simp)] at hsd
       have hdl : (l.drop i).length ≤ 20 := by simp; omega
       have hdb : ∀ e ∈ l.drop i, (0 ≤ e.1 ∧ e.1 ≤ 2305843009213693952 + k) ∧ e.2.length ≤ 100 := fun e he => hc3 e (List.mem_of_mem_drop he)
       have hdE : entsLen (l.drop i) ≤ 16000000 := ents_small hdl (fun e he => (hdb e he).2)
       refine cj_skip ?_
       refine hK18 _ _ _ ?_
       refine cj_seq (fun K21 hK21 => ?_)
       refine cj_mixg (L := [ndB b v x]) [0, 1, 2, 3, 4, 5, 6, 7, 8, 9] [10] [11] _ (by (repeat (first|exact zR _|(apply zP;focus (repeat (first|exact zH _|apply zT)))|apply zD|exact zA _ _))) (by kernel_rfl) (by kernel_rfl) (by kernel_rfl) rfl ?_
       refine fj_val rfl rfl rfl (wn0 rfl) (fun R1 hR1 G => (y_move rfl)) ?_
       refine fj_val rfl rfl rfl (wn0 rfl) (fun R1 hR1 G => (y_move rfl)) ?_
       refine fj_val rfl rfl rfl (wn0 rfl) (fun R1 hR1 G => (y_nilCheck rfl)) ?_
       refine fj_val rfl rfl rfl (wn0 rfl) (fun R1 hR1 G => (y_fieldAddr (k := 2) Tryz.underlying81 rfl (n := 1) (by decide) Tryz.sizeOf44 rfl)) ?_
       first | refine fj_val rfl rfl rfl (wn0 rfl) (fun R1 hR1 G => (y_load ⟨Tryz.isAgg44, Tryz.sizeOf44⟩ rfl (by (repeat (first|exact zH _|apply zT));done) rfl)) ?_ | refine fj_val rfl rfl rfl (wn0 rfl) (fun R1 hR1 G => (y_load_slc ⟨Tryz.isAgg44, Tryz.sizeOf44⟩ rfl (by (repeat (first|exact zH _|apply zT));done) rfl)) ?_
       refine fj_val rfl rfl rfl (wn0 rfl) (fun R1 hR1 G => (y_move rfl)) ?_
       refine fj_val rfl rfl rfl (wn0 rfl) (fun R1 hR1 G => (y_subu rfl rfl (by omega))) ?_
       refine fj_val rfl rfl rfl (wn0 rfl) (fun R1 hR1 G => (y_move rfl)) ?_
       refine fj_val rfl rfl rfl (wn0 rfl) (fun R1 hR1 G => (y_move rfl)) ?_
       refine fj_val rfl rfl rfl (wn0 rfl) (fun R1 hR1 G => (y_slice_sl (l := i) (h := l.length) Tryz.underlying32 Tryz.sizeOf60 rfl ⟨.i64, rfl⟩ rfl (by omega))) ?_
       refine fj_nil ?_
       refine xj_rj rfl ?_
       try simp only [List.cons_append, List.nil_append, List.append_nil]
       refine rj_call (wn0 rfl) rfl Tryz.call89 rfl (lgAdd_t b.l b.d v.va v.u _ x.g D n (bh + 1 + i - 1) (l.drop i) hg (by unfold u64B; omega) hva hsd (by omega) (fun e he => ⟨by have := (hdb e he).1; unfold u64B; omega, by have := (hdb e he).2; omega⟩) hdE hD (by omega)) (by (repeat (first|exact zN _|(apply zS;focus (repeat (first|exact zH _|apply zT)))))) (fun _ _ _ _ h => h.elim) ?_
       rintro r R4 L' hR4 ⟨rfl, u2, va2, hva2, rfl⟩
       rw [← hra] at hva2 ⊢
       try simp only [List.cons_append, List.nil_append]
       refine rj_xk (by (first | exact Hp.le_refl _ | assumption | exact Hp.le_trans ‹_› ‹_›)) (by (repeat (first|exact zR _|(apply zP;focus (repeat (first|exact zH _|apply zT)))|apply zD|exact zA _ _))) ?_
       refine xj_nil ?_
       try simp only [List.cons_append, List.nil_append, List.append_nil]
       refine rj_call (wn0 rfl) rfl Tryz.call39 rfl (must_t b (v.logd u2 va2) x _) (by (repeat (first|exact zN _|(apply zS;focus (repeat (first|exact zH _|apply zT)))))) (fun ch Rp Lp hRp hpp => ?_) ?_
       · obtain ⟨he1, rfl, rfl⟩ := hpp
         try simp only [List.cons_append, List.nil_append]
         refine hpan _ _ _ _ ?_
         refine ej_pan _ (ndL b (v.logd u2 va2) { x with g := ra.2.1, down := true } ra.2.2) (by first | exact Hp.le_refl _ | assumption | exact Hp.le_trans ‹_› ‹_› | exact Hp.le_trans hR4 hRp) rfl (by (repeat (first|exact zR _|(apply zP;focus (repeat (first|exact zH _|apply zT)))|apply zD|exact zA _ _))) ?_
         exact ⟨by rw [hAs]; simp [bindN, mustN, he1], rfl, v.logd u2 va2, by rw [hAs]; simp only [bindN, mustN, if_neg he1]; exact hv.logd (y := { x with g := ra.2.1, down := true }) (Hp.le_trans hR4 hRp) ⟨rfl, rfl⟩ (hva2.mono hRp), by rw [hAs]; simp [bindN, mustN, he1]⟩
       rintro r R5 L' hR5 ⟨he0, rfl⟩
       have hx1 : NIn (k + 1) { x with g := ra.2.1 } := by rw [hra, addD_ok (by rw [← hra]; exact he0)]; exact hx.add hdb hdl
       have hR35 := Hp.le_trans hR4 hR5
       have hv1 : NOk R5 (v.logd u2 va2) { x with g := ra.2.1 } := hv.logd (y := { x with g := ra.2.1 }) hR35 ⟨rfl, rfl⟩ (hva2.mono hR5)
       try simp only [List.cons_append, List.nil_append]
       refine rj_nil ?_
       refine hK21 _ _ _ ?_
       refine cj_env (eL 0 rfl (eL 3 rfl (eL 12 rfl eN))) ?_
       refine cj_exit ?_
       refine ej_join hJ21 (({ x with g := ra.2.1 }, v.logd u2 va2, ra.2.2, R5)) (⟨hx1, hv1, hR35, by rw [hAs]; simp [bindN, mustN, he0]⟩) (eC rfl (eC rfl (eC rfl eN))) rfl (by (repeat (first|exact zR _|(apply zP;focus (repeat (first|exact zH _|apply zT)))|apply zD|exact zA _ _)))
    ·have g1 := hok2 (by simpa using hg108)
     have hno : ¬ (x.g.at (bh + 1 + i)).map (·.1) = some e.1 := by rw [g1]; simp
     refine rj_skip (wn2 rfl rfl rfl rfl rfl) rfl rfl ?_
     refine rj_skip (wn2 rfl rfl rfl rfl rfl) rfl rfl ?_
     refine rj_skip (wn2 rfl rfl rfl rfl rfl) rfl rfl ?_
     refine rj_skip (wn2 rfl rfl rfl rfl rfl) rfl rfl ?_
     refine rj_skip (wn2 rfl rfl rfl rfl rfl) rfl rfl ?_
     refine rv0 rfl rfl rfl (y_pick_f rfl rfl) ?_
     refine rj_nil ?_
     refine hK16 _ _ _ ?_
     refine cj_env (eL 0 rfl (eL 3 rfl (eL 4 rfl (eL 5 rfl (eL 12 rfl (eL 13 rfl (eL 15 rfl (eL 86 rfl (eL 87 rfl (eL 88 rfl (eL 114 rfl eN))))))))))) ?_
     refine cj_cond_f rfl ?_
     refine cj_skip ?_
     refine hK14 _ _ _ ?_
     refine cj_env (eL 0 rfl (eL 3 rfl (eL 5 rfl (eL 12 rfl (eL 13 rfl (eL 15 rfl eN)))))) ?_
     refine cj_seq (fun K22 hK22 => ?_)
     refine cj_seq (fun K23 hK23 => ?_)
     have hfs : addN (x, D) m = if bh + 1 + i ≤ x.commit then (true, (x, D)) else bindN (mustN (x, D) (x.g.addD D (bh + 1 + i - 1) (l.drop i))) fun s => (true, ((s.1.commits m (bh + l.length)).answer m true (bh + l.length), s.2)) := by rw [hnot, restN_some (by rw [hfk, drop_cons he, fits_no hno])]; rw [drop_cons he]
     refine cj_region ?_
     refine rv0 rfl rfl rfl (y_move rfl) ?_
     refine rv0 rfl rfl rfl (y_move rfl) ?_
     refine rv0 rfl rfl rfl (y_nilCheck rfl) ?_
     refine rv0 rfl rfl rfl (y_fieldAddr (k := 5) Tryz.underlying81 rfl (n := 1) (by decide) Tryz.sizeOf31 rfl) ?_
     first | refine rv0 rfl rfl rfl (y_load ⟨Tryz.isAgg31, Tryz.sizeOf31⟩ rfl (by (repeat (first|exact zH _|apply zT));done) rfl) ?_ | refine rv0 rfl rfl rfl (y_load_slc ⟨Tryz.isAgg31, Tryz.sizeOf31⟩ rfl (by (repeat (first|exact zH _|apply zT));done) rfl) ?_
     refine rv0 rfl rfl rfl (y_leq rfl rfl) ?_
     refine rj_nil ?_
     refine hK23 _ _ _ ?_
     refine cj_env (eL 0 rfl (eL 3 rfl (eL 5 rfl (eL 12 rfl (eL 13 rfl (eL 15 rfl (eL 120 rfl eN))))))) ?_
     refine cj_cond rfl (fun hc120 => ?_) (fun hc120 => ?_)
     ·have g2 : bh + 1 + i ≤ x.commit := by simpa using hc120
      rw [if_pos g2] at hfs
      refine cj_ret ?_
      refine hret _ _ _ ?_
      apply ej_ret Tryz.results69 .nil _ (ndL b v x D) (by first | exact Hp.le_refl _ | assumption) rfl
      case hp => rw [hfs]; exact ⟨rfl, v, hv, rfl⟩
      case hS => (repeat (first|exact zR _|(apply zP;focus (repeat (first|exact zH _|apply zT)))|apply zD|exact zA _ _))
     ·have g2 : ¬ bh + 1 + i ≤ x.commit := by simpa using hc120
      rw [if_neg g2] at hfs
      obtain ⟨ra, hra⟩ : ∃ r, r = x.g.addD D (bh + 1 + i - 1) (l.drop i) := ⟨_, rfl⟩
      rw [← hra] at hfs
      have hAs := hfs
      have hsd := hl.sub (a := i) (b := l.length) (by omega) (by omega)
      rw [List.take_of_length_le (by simp)] at hsd
      have hdl : (l.drop i).length ≤ 20 := by simp; omega
      have hdb : ∀ e ∈ l.drop i, (0 ≤ e.1 ∧ e.1 ≤ 2305843009213693952 + k) ∧ e.2.length ≤ 100 := fun e he => hc3 e (List.mem_of_mem_drop he)
      have hdE : entsLen (l.drop i) ≤ 16000000 := ents_small hdl (fun e he => (hdb e he).2)
      refine cj_skip ?_
      refine hK22 _ _ _ ?_
      refine cj_seq (fun K25 hK25 => ?_)
      refine cj_mixg (L := [ndB b v x]) [0, 1, 2, 3, 4, 5, 6, 7, 8, 9] [10] [11] _ (by (repeat (first|exact zR _|(apply zP;focus (repeat (first|exact zH _|apply zT)))|apply zD|exact zA _ _))) (by kernel_rfl) (by kernel_rfl) (by kernel_rfl) rfl ?_
      refine fj_val rfl rfl rfl (wn0 rfl) (fun R1 hR1 G => (y_move rfl)) ?_
      refine fj_val rfl rfl rfl (wn0 rfl) (fun R1 hR1 G => (y_move rfl)) ?_
      refine fj_val rfl rfl rfl (wn0 rfl) (fun R1 hR1 G => (y_nilCheck rfl)) ?_
      refine fj_val rfl rfl rfl (wn0 rfl) (fun R1 hR1 G => (y_fieldAddr (k := 2) Tryz.underlying81 rfl (n := 1) (by decide) Tryz.sizeOf44 rfl)) ?_
      first | refine fj_val rfl rfl rfl (wn0 rfl) (fun R1 hR1 G => (y_load ⟨Tryz.isAgg44, Tryz.sizeOf44⟩ rfl (by (repeat (first|exact zH _|apply zT));done) rfl)) ?_ | refine fj_val rfl rfl rfl (wn0 rfl) (fun R1 hR1 G => (y_load_slc ⟨Tryz.isAgg44, Tryz.sizeOf44⟩ rfl (by (repeat (first|exact zH _|apply zT));done) rfl)) ?_
      refine fj_val rfl rfl rfl (wn0 rfl) (fun R1 hR1 G => (y_move rfl)) ?_
      refine fj_val rfl rfl rfl (wn0 rfl) (fun R1 hR1 G => (y_subu rfl rfl (by omega))) ?_
      refine fj_val rfl rfl rfl (wn0 rfl) (fun R1 hR1 G => (y_move rfl)) ?_
      refine fj_val rfl rfl rfl (wn0 rfl) (fun R1 hR1 G => (y_move rfl)) ?_
      refine fj_val rfl rfl rfl (wn0 rfl) (fun R1 hR1 G => (y_slice_sl (l := i) (h := l.length) Tryz.underlying32 Tryz.sizeOf60 rfl ⟨.i64, rfl⟩ rfl (by omega))) ?_
      refine fj_nil ?_
      refine xj_rj rfl ?_
      try simp only [List.cons_append, List.nil_append, List.append_nil]
      refine rj_call (wn0 rfl) rfl Tryz.call89 rfl (lgAdd_t b.l b.d v.va v.u _ x.g D n (bh + 1 + i - 1) (l.drop i) hg (by unfold u64B; omega) hva hsd (by omega) (fun e he => ⟨by have := (hdb e he).1; unfold u64B; omega, by have := (hdb e he).2; omega⟩) hdE hD (by omega)) (by (repeat (first|exact zN _|(apply zS;focus (repeat (first|exact zH _|apply zT)))))) (fun _ _ _ _ h => h.elim) ?_
      rintro r R4 L' hR4 ⟨rfl, u2, va2, hva2, rfl⟩
      rw [← hra] at hva2 ⊢
      try simp only [List.cons_append, List.nil_append]
      refine rj_xk (by (first | exact Hp.le_refl _ | assumption | exact Hp.le_trans ‹_› ‹_›)) (by (repeat (first|exact zR _|(apply zP;focus (repeat (first|exact zH _|apply zT)))|apply zD|exact zA _ _))) ?_
      refine xj_nil ?_
      try simp only [List.cons_append, List.nil_append, List.append_nil]
      refine rj_call (wn0 rfl) rfl Tryz.call39 rfl (must_t b (v.logd u2 va2) x _) (by (repeat (first|exact zN _|(apply zS;focus (repeat (first|exact zH _|apply zT)))))) (fun ch Rp Lp hRp hpp => ?_) ?_
      · obtain ⟨he1, rfl, rfl⟩ := hpp
        try simp only [List.cons_append, List.nil_append]
        refine hpan _ _ _ _ ?_
        refine ej_pan _ (ndL b (v.logd u2 va2) { x with g := ra.2.1, down := true } ra.2.2) (by first | exact Hp.le_refl _ | assumption | exact Hp.le_trans ‹_› ‹_› | exact Hp.le_trans hR4 hRp) rfl (by (repeat (first|exact zR _|(apply zP;focus (repeat (first|exact zH _|apply zT)))|apply zD|exact zA _ _))) ?_
        exact ⟨by rw [hAs]; simp [bindN, mustN, he1], rfl, v.logd u2 va2, by rw [hAs]; simp only [bindN, mustN, if_neg he1]; exact hv.logd (y := { x with g := ra.2.1, down := true }) (Hp.le_trans hR4 hRp) ⟨rfl, rfl⟩ (hva2.mono hRp), by rw [hAs]; simp [bindN, mustN, he1]⟩
      rintro r R5 L' hR5 ⟨he0, rfl⟩
      have hx1 : NIn (k + 1) { x with g := ra.2.1 } := by rw [hra, addD_ok (by rw [← hra]; exact he0)]; exact hx.add hdb hdl
      have hR35 := Hp.le_trans hR4 hR5
      have hv1 : NOk R5 (v.logd u2 va2) { x with g := ra.2.1 } := hv.logd (y := { x with g := ra.2.1 }) hR35 ⟨rfl, rfl⟩ (hva2.mono hR5)
      try simp only [List.cons_append, List.nil_append]
      refine rj_nil ?_
      refine hK25 _ _ _ ?_
      refine cj_env (eL 0 rfl (eL 3 rfl (eL 12 rfl eN))) ?_
      refine cj_exit ?_
      refine ej_join hJ21 (({ x with g := ra.2.1 }, v.logd u2 va2, ra.2.2, R5)) (⟨hx1, hv1, hR35, by rw [hAs]; simp [bindN, mustN, he0]⟩) (eC rfl (eC rfl (eC rfl eN))) rfl (by (repeat (first|exact zR _|(apply zP;focus (repeat (first|exact zH _|apply zT)))|apply zD|exact zA _ _)))
   ·try simp only [dT, dF, nT, nF, tF, fT] at hc89
    refine cj_exit ?_
    refine ej_join hJ21 ((x, v, D, R)) (⟨hx.le (by omega), hv, Hp.le_refl _, by rw [hnot, restN_none (by rw [hfk, List.drop_of_length_le (by (try simp at hc89); omega)]; rfl)]⟩) (eC rfl (eC rfl (eC rfl eN))) rfl (by (repeat (first|exact zR _|(apply zP;focus (repeat (first|exact zH _|apply zT)))|apply zD|exact zA _ _)))
  refine cj_seq (fun K26 hK26 => ?_)
  refine cj_region ?_
  refine rv0 rfl rfl rfl (y_move rfl) ?_
  refine rv0 rfl rfl rfl (y_nilCheck rfl) ?_
  refine rv0 rfl rfl rfl (y_fieldAddr (k := 2) Tryz.underlying81 rfl (n := 1) (by decide) Tryz.sizeOf44 rfl) ?_
  first | refine rv0 rfl rfl rfl (y_load ⟨Tryz.isAgg44, Tryz.sizeOf44⟩ rfl (by (repeat (first|exact zH _|apply zT));done) rfl) ?_ | refine rv0 rfl rfl rfl (y_load_slc ⟨Tryz.isAgg44, Tryz.sizeOf44⟩ rfl (by (repeat (first|exact zH _|apply zT));done) rfl) ?_
  refine rv0 rfl rfl rfl (y_call Tryz.call18 rfl (lgBase_q b.l (some ⟨b.d, 0, none⟩) v.va x.g) (by (repeat (first|exact zN _|(apply zS;focus (repeat (first|exact zH _|apply zT))))))) ?_
  refine rv0 rfl rfl rfl (y_move rfl) ?_
  refine rv0 rfl rfl rfl (y_extract rfl rfl) ?_
  refine rv0 rfl rfl rfl (y_extract rfl rfl) ?_
  refine rv0 rfl rfl rfl (y_extract rfl rfl) ?_
  refine rv0 rfl rfl rfl (y_assign rfl) ?_
  refine rv0 rfl rfl rfl (y_assign rfl) ?_
  refine rv0 rfl rfl rfl (y_assign rfl) ?_
  refine rj_nil ?_
  refine hK26 _ _ _ ?_
  refine cj_env (eL 0 rfl (eL 3 rfl (eL 4 rfl (eL 5 rfl (eL 6 rfl eN))))) ?_
  refine cj_seq (fun K27 hK27 => ?_)
  refine cj_region ?_
  refine rv0 rfl rfl rfl (y_move rfl) ?_
  refine rv0 rfl rfl rfl (y_move rfl) ?_
  refine rv0 rfl rfl rfl (y_lss rfl rfl) ?_
  refine rj_nil ?_
  refine hK27 _ _ _ ?_
  refine cj_cond rfl (fun hc33 => ?_) (fun hc33 => ?_)
  ·have f1 : m.index < x.g.base := by simpa using hc33
   refine cj_seq (fun K29 hK29 => ?_)
   refine cj_seq (fun K30 hK30 => ?_)
   refine cj_region ?_
   refine rv0 rfl rfl rfl (y_move rfl) ?_
   first | refine rv0 rfl rfl rfl (y_len_sl Tryz.underlying32 rfl) ?_ | refine rv0 rfl rfl rfl (y_len_slc Tryz.underlying32 rfl (by (repeat (first|exact zH _|apply zT));done)) ?_
   refine rv0 rfl rfl rfl ((y_conv_in Tryz.underlying3 Tryz.underlying31 rfl (by (simp only [IntKind.min, IntKind.max, IntKind.signed, IntKind.bits, Bool.false_eq_true, ite_false, ite_true]; omega)))) ?_
   refine rv0 rfl rfl rfl (y_move rfl) ?_
   refine rv0 rfl rfl rfl (y_move rfl) ?_
   refine rv0 rfl rfl rfl ((y_subu rfl rfl (by omega))) ?_
   refine rv0 rfl rfl rfl (y_lss rfl rfl) ?_
   refine rj_nil ?_
   refine hK30 _ _ _ ?_
   refine cj_env (eL 0 rfl (eL 3 rfl (eL 4 rfl (eL 5 rfl (eL 6 rfl (eL 40 rfl eN)))))) ?_
   refine cj_cond rfl (fun hc40 => ?_) (fun hc40 => ?_)
   ·have f2 : (m.es.length : Int) < x.g.base - m.index := by (try simp at hc40); omega
    refine cj_seq (fun K32 hK32 => ?_)
    refine cj_region ?_
    refine rv0 rfl rfl rfl (y_move rfl) ?_
    first | refine rv0 rfl rfl rfl (y_loads_blk ⟨Tryz.isAgg48, Tryz.sizeOf48⟩ rfl (by (repeat (first|exact zH _|apply zT));done) rfl rfl) ?_ | refine rv0 rfl rfl rfl (y_loads_slc ⟨Tryz.isAgg48, Tryz.sizeOf48⟩ rfl (by (repeat (first|exact zH _|apply zT));done) rfl rfl (by (first | omega | (dsimp only; omega) | (simp; done) | (simp; omega)))) ?_
    refine rv0 rfl rfl rfl (y_move rfl) ?_
    refine rj_call (wn0 rfl) rfl Tryz.call68 rfl (answer_t b v x m (.slice qe m.es.length ce) _ _ hv.out hv.vo (by omega) hveo) (by (repeat (first|exact zN _|(apply zS;focus (repeat (first|exact zH _|apply zT)))))) (fun _ _ _ _ h => h.elim) ?_
    rintro r R2 L' hR2 ⟨vo, css, hels, hvo2, rfl⟩
    try simp only [List.cons_append, List.nil_append]
    refine rj_nil ?_
    refine hK32 _ _ _ ?_
    refine cj_env eN ?_
    refine cj_ret ?_
    refine hret _ _ _ ?_
    apply ej_ret Tryz.results69 .nil _ (ndL b (v.sent vo css) (x.answer m _ _) D) (by first | exact Hp.le_refl _ | assumption) rfl
    case hp => unfold addN; first|(rw [if_pos ⟨f1, f2⟩]; exact ⟨rfl, _, hv.sent (y := x.answer m true x.g.base) hR2 ⟨rfl, rfl⟩ hels hvo2, rfl⟩)|(rw [if_neg (fun h => f1 h.1), if_pos ⟨f1, f4⟩]; exact ⟨rfl, _, hv.sent (y := x.answer m false (min x.g.last (max m.index 1 - 1))) hR2 ⟨rfl, rfl⟩ hels hvo2, rfl⟩)
    case hS => (repeat (first|exact zR _|(apply zP;focus (repeat (first|exact zH _|apply zT)))|apply zD|exact zA _ _))
   ·have f2 : ¬ (m.es.length : Int) < x.g.base - m.index := by (try simp at hc40); omega
    refine cj_skip ?_
    refine hK29 _ _ _ ?_
    refine cj_draw (by kernel_rfl) (by kernel_rfl) ?_
    have hsub := hve.sub (a := (x.g.base - m.index).toNat) (b := m.es.length) (by omega) (by omega)
    rw [List.take_of_length_le (by simp)] at hsub
    have hA1 := addN_eq (x := x) (D := D) (m := m) (fun h => f2 h.2) (fun h => h.1 f1)
    rw [show x.cutM m = (x.g.base, m.es.drop (x.g.base - m.index).toNat) by unfold ND.cutM; rw [if_pos f1]] at hA1
    refine qj_val (wn0 rfl) rfl rfl (y_move rfl) ?_
    refine qj_val (wn0 rfl) rfl rfl (y_move rfl) ?_
    refine qj_val (wn0 rfl) rfl rfl (y_move rfl) ?_
    refine qj_val (wn0 rfl) rfl rfl (y_move rfl) ?_
    refine qj_val (wn0 rfl) rfl rfl ((y_subu rfl rfl (by omega))) ?_
    refine qj_val (wn0 rfl) rfl rfl ((y_slice_sl (l := (x.g.base - m.index).toNat) (h := m.es.length) Tryz.underlying32 Tryz.sizeOf60 rfl ⟨.u64, by rw [show (((x.g.base - m.index).toNat : Nat) : Int) = x.g.base - m.index by omega]; rfl⟩ rfl (by omega))) ?_
    refine qj_val (wn0 rfl) rfl rfl (y_assign rfl) ?_
    refine qj_val (wn0 rfl) rfl rfl (y_assign rfl) ?_
    refine qj_nil ?_
    refine ej_join hJ11 ((x.g.base, m.es.drop (x.g.base - m.index).toNat, _)) (⟨by unfold ND.cutM; rw [if_pos f1], hsub, hA1⟩) (eC rfl (eC rfl (eC rfl (eC rfl eN)))) rfl (by (repeat (first|exact zR _|(apply zP;focus (repeat (first|exact zH _|apply zT)))|apply zD|exact zA _ _)))
  ·have f1 : ¬ m.index < x.g.base := by simpa using hc33
   refine cj_seq (fun K33 hK33 => ?_)
   refine cj_region ?_
   refine rv0 rfl rfl rfl (y_move rfl) ?_
   refine rv0 rfl rfl rfl (y_nilCheck rfl) ?_
   refine rv0 rfl rfl rfl (y_fieldAddr (k := 2) Tryz.underlying81 rfl (n := 1) (by decide) Tryz.sizeOf44 rfl) ?_
   first | refine rv0 rfl rfl rfl (y_load ⟨Tryz.isAgg44, Tryz.sizeOf44⟩ rfl (by (repeat (first|exact zH _|apply zT));done) rfl) ?_ | refine rv0 rfl rfl rfl (y_load_slc ⟨Tryz.isAgg44, Tryz.sizeOf44⟩ rfl (by (repeat (first|exact zH _|apply zT));done) rfl) ?_
   refine rv0 rfl rfl rfl (y_move rfl) ?_
   refine rv0 rfl rfl rfl (y_call Tryz.call96 rfl (lgTermAt_q b.l (some ⟨b.d, 0, none⟩) v.va x.g hg hva m.index (by unfold u64B; omega)) (by (repeat (first|exact zN _|(apply zS;focus (repeat (first|exact zH _|apply zT))))))) ?_
   refine rj_eq 57 rfl (v' := tupOf [.int .u64 ((x.g.termAt m.index).getD 0), .bool (x.g.termAt m.index).isSome]) (numV_eq _) ?_
   refine rv0 rfl rfl rfl (y_move rfl) ?_
   refine rv0 rfl rfl rfl (y_extract rfl rfl) ?_
   refine rv0 rfl rfl rfl (y_extract rfl rfl) ?_
   refine rv0 rfl rfl rfl (y_assign rfl) ?_
   refine rv0 rfl rfl rfl (y_assign rfl) ?_
   refine rj_nil ?_
   refine hK33 _ _ _ ?_
   refine cj_env (eL 0 rfl (eL 3 rfl (eL 4 rfl (eL 5 rfl (eL 9 rfl (eL 10 rfl eN)))))) ?_
   refine cj_seq (fun K34 hK34 => ?_)
   refine cj_region ?_
   refine rv0 rfl rfl rfl (y_move rfl) ?_
   refine rv0 rfl rfl rfl (y_not rfl) ?_
   refine rv0 rfl rfl rfl (y_move rfl) ?_
   refine rj_part 62 rfl (fun hg62 => ?_) (fun hg62 => ?_)
   ·have f3 : (x.g.termAt m.index).isSome = false := by simpa using hg62
    have f4 : ¬ x.g.termAt m.index = some m.logTerm := termAt_some.2 (.inl f3)
    refine rj_skip (wn2 rfl rfl rfl rfl rfl) rfl rfl ?_
    refine rj_skip (wn2 rfl rfl rfl rfl rfl) rfl rfl ?_
    refine rj_skip (wn2 rfl rfl rfl rfl rfl) rfl rfl ?_
    refine rj_skip (wn2 rfl rfl rfl rfl rfl) rfl rfl ?_
    refine rv0 rfl rfl rfl (y_pick_t rfl rfl) ?_
    refine rj_nil ?_
    refine hK34 _ _ _ ?_
    refine cj_env (eL 0 rfl (eL 3 rfl (eL 4 rfl (eL 5 rfl (eL 67 rfl eN))))) ?_
    refine cj_cond_t rfl ?_
    refine cj_seq (fun K35 hK35 => ?_)
    refine cj_region ?_
    refine rv0 rfl rfl rfl (y_move rfl) ?_
    refine rv0 rfl rfl rfl (y_nilCheck rfl) ?_
    refine rv0 rfl rfl rfl (y_fieldAddr (k := 2) Tryz.underlying81 rfl (n := 1) (by decide) Tryz.sizeOf44 rfl) ?_
    first | refine rv0 rfl rfl rfl (y_load ⟨Tryz.isAgg44, Tryz.sizeOf44⟩ rfl (by (repeat (first|exact zH _|apply zT));done) rfl) ?_ | refine rv0 rfl rfl rfl (y_load_slc ⟨Tryz.isAgg44, Tryz.sizeOf44⟩ rfl (by (repeat (first|exact zH _|apply zT));done) rfl) ?_
    refine rv0 rfl rfl rfl (y_call Tryz.call19 rfl (lgLast_q b.l (some ⟨b.d, 0, none⟩) v.va x.g hg hva) (by (repeat (first|exact zN _|(apply zS;focus (repeat (first|exact zH _|apply zT))))))) ?_
    refine rv0 rfl rfl rfl (y_move rfl) ?_
    refine rv0 rfl rfl rfl (y_max rfl rfl) ?_
    refine rv0 rfl rfl rfl ((y_subu rfl rfl (by omega))) ?_
    refine rv0 rfl rfl rfl (y_min rfl rfl) ?_
    refine rv0 rfl rfl rfl (y_assign rfl) ?_
    refine rj_nil ?_
    refine hK35 _ _ _ ?_
    refine cj_env (eL 0 rfl (eL 3 rfl (eL 11 rfl eN))) ?_
    refine cj_seq (fun K36 hK36 => ?_)
    refine cj_region ?_
    refine rv0 rfl rfl rfl (y_move rfl) ?_
    first | refine rv0 rfl rfl rfl (y_loads_blk ⟨Tryz.isAgg48, Tryz.sizeOf48⟩ rfl (by (repeat (first|exact zH _|apply zT));done) rfl rfl) ?_ | refine rv0 rfl rfl rfl (y_loads_slc ⟨Tryz.isAgg48, Tryz.sizeOf48⟩ rfl (by (repeat (first|exact zH _|apply zT));done) rfl rfl (by (first | omega | (dsimp only; omega) | (simp; done) | (simp; omega)))) ?_
    refine rv0 rfl rfl rfl (y_move rfl) ?_
    refine rj_call (wn0 rfl) rfl Tryz.call68 rfl (answer_t b v x m (.slice qe m.es.length ce) _ _ hv.out hv.vo (by omega) hveo) (by (repeat (first|exact zN _|(apply zS;focus (repeat (first|exact zH _|apply zT)))))) (fun _ _ _ _ h => h.elim) ?_
    rintro r R2 L' hR2 ⟨vo, css, hels, hvo2, rfl⟩
    try simp only [List.cons_append, List.nil_append]
    refine rj_nil ?_
    refine hK36 _ _ _ ?_
    refine cj_env eN ?_
    refine cj_ret ?_
    refine hret _ _ _ ?_
    apply ej_ret Tryz.results69 .nil _ (ndL b (v.sent vo css) (x.answer m _ _) D) (by first | exact Hp.le_refl _ | assumption) rfl
    case hp => unfold addN; first|(rw [if_pos ⟨f1, f2⟩]; exact ⟨rfl, _, hv.sent (y := x.answer m true x.g.base) hR2 ⟨rfl, rfl⟩ hels hvo2, rfl⟩)|(rw [if_neg (fun h => f1 h.1), if_pos ⟨f1, f4⟩]; exact ⟨rfl, _, hv.sent (y := x.answer m false (min x.g.last (max m.index 1 - 1))) hR2 ⟨rfl, rfl⟩ hels hvo2, rfl⟩)
    case hS => (repeat (first|exact zR _|(apply zP;focus (repeat (first|exact zH _|apply zT)))|apply zD|exact zA _ _))
   ·have f3 : (x.g.termAt m.index).isSome = true := by simpa using hg62
    refine rj_val (wn1 rfl rfl rfl rfl) rfl rfl (y_move rfl) ?_
    refine rj_val (wn1 rfl rfl rfl rfl) rfl rfl (y_fieldAddr (k := 5) Tryz.underlying48 rfl (n := 1) (by decide) Tryz.sizeOf31 rfl) ?_
    first | refine rj_val (wn1 rfl rfl rfl rfl) rfl rfl (y_load ⟨Tryz.isAgg31, Tryz.sizeOf31⟩ rfl (by (repeat (first|exact zH _|apply zT));done) rfl) ?_ | refine rj_val (wn1 rfl rfl rfl rfl) rfl rfl (y_load_slc ⟨Tryz.isAgg31, Tryz.sizeOf31⟩ rfl (by (repeat (first|exact zH _|apply zT));done) rfl) ?_
    refine rj_val (wn1 rfl rfl rfl rfl) rfl rfl (y_neq rfl rfl) ?_
    refine rv0 rfl rfl rfl (y_pick_f rfl rfl) ?_
    refine rj_nil ?_
    refine hK34 _ _ _ ?_
    refine cj_env (eL 0 rfl (eL 3 rfl (eL 4 rfl (eL 5 rfl (eL 67 rfl eN))))) ?_
    refine cj_cond rfl (fun hc67 => ?_) (fun hc67 => ?_)
    ·first|(have f4 : ¬ x.g.termAt m.index = some m.logTerm := termAt_some.2 (.inr (by simpa using hc67)))|skip
     refine cj_seq (fun K38 hK38 => ?_)
     refine cj_region ?_
     refine rv0 rfl rfl rfl (y_move rfl) ?_
     refine rv0 rfl rfl rfl (y_nilCheck rfl) ?_
     refine rv0 rfl rfl rfl (y_fieldAddr (k := 2) Tryz.underlying81 rfl (n := 1) (by decide) Tryz.sizeOf44 rfl) ?_
     first | refine rv0 rfl rfl rfl (y_load ⟨Tryz.isAgg44, Tryz.sizeOf44⟩ rfl (by (repeat (first|exact zH _|apply zT));done) rfl) ?_ | refine rv0 rfl rfl rfl (y_load_slc ⟨Tryz.isAgg44, Tryz.sizeOf44⟩ rfl (by (repeat (first|exact zH _|apply zT));done) rfl) ?_
     refine rv0 rfl rfl rfl (y_call Tryz.call19 rfl (lgLast_q b.l (some ⟨b.d, 0, none⟩) v.va x.g hg hva) (by (repeat (first|exact zN _|(apply zS;focus (repeat (first|exact zH _|apply zT))))))) ?_
     refine rv0 rfl rfl rfl (y_move rfl) ?_
     refine rv0 rfl rfl rfl (y_max rfl rfl) ?_
     refine rv0 rfl rfl rfl ((y_subu rfl rfl (by omega))) ?_
     refine rv0 rfl rfl rfl (y_min rfl rfl) ?_
     refine rv0 rfl rfl rfl (y_assign rfl) ?_
     refine rj_nil ?_
     refine hK38 _ _ _ ?_
     refine cj_env (eL 0 rfl (eL 3 rfl (eL 11 rfl eN))) ?_
     refine cj_seq (fun K39 hK39 => ?_)
     refine cj_region ?_
     refine rv0 rfl rfl rfl (y_move rfl) ?_
     first | refine rv0 rfl rfl rfl (y_loads_blk ⟨Tryz.isAgg48, Tryz.sizeOf48⟩ rfl (by (repeat (first|exact zH _|apply zT));done) rfl rfl) ?_ | refine rv0 rfl rfl rfl (y_loads_slc ⟨Tryz.isAgg48, Tryz.sizeOf48⟩ rfl (by (repeat (first|exact zH _|apply zT));done) rfl rfl (by (first | omega | (dsimp only; omega) | (simp; done) | (simp; omega)))) ?_
     refine rv0 rfl rfl rfl (y_move rfl) ?_
     refine rj_call (wn0 rfl) rfl Tryz.call68 rfl (answer_t b v x m (.slice qe m.es.length ce) _ _ hv.out hv.vo (by omega) hveo) (by (repeat (first|exact zN _|(apply zS;focus (repeat (first|exact zH _|apply zT)))))) (fun _ _ _ _ h => h.elim) ?_
     rintro r R2 L' hR2 ⟨vo, css, hels, hvo2, rfl⟩
     try simp only [List.cons_append, List.nil_append]
     refine rj_nil ?_
     refine hK39 _ _ _ ?_
     refine cj_env eN ?_
     refine cj_ret ?_
     refine hret _ _ _ ?_
     apply ej_ret Tryz.results69 .nil _ (ndL b (v.sent vo css) (x.answer m _ _) D) (by first | exact Hp.le_refl _ | assumption) rfl
     case hp => unfold addN; first|(rw [if_pos ⟨f1, f2⟩]; exact ⟨rfl, _, hv.sent (y := x.answer m true x.g.base) hR2 ⟨rfl, rfl⟩ hels hvo2, rfl⟩)|(rw [if_neg (fun h => f1 h.1), if_pos ⟨f1, f4⟩]; exact ⟨rfl, _, hv.sent (y := x.answer m false (min x.g.last (max m.index 1 - 1))) hR2 ⟨rfl, rfl⟩ hels hvo2, rfl⟩)
     case hS => (repeat (first|exact zR _|(apply zP;focus (repeat (first|exact zH _|apply zT)))|apply zD|exact zA _ _))
    ·have f4 : ¬ ¬ x.g.termAt m.index = some m.logTerm := fun h => by (rcases termAt_some.1 h with h | h <;> first | (rw [f3] at h; cases h; done) | (simp at hc67; exact h hc67))
     have hA2 := addN_eq (x := x) (D := D) (m := m) (fun h => f1 h.1) (fun h => f4 h.2)
     rw [show x.cutM m = (m.index, m.es) by unfold ND.cutM; rw [if_neg f1]] at hA2
     refine cj_skip ?_
     refine ej_join hJ11 ((m.index, m.es, _)) (⟨by unfold ND.cutM; rw [if_neg f1], hve, hA2⟩) (eC rfl (eC rfl (eC rfl (eC rfl eN)))) rfl (by (repeat (first|exact zR _|(apply zP;focus (repeat (first|exact zH _|apply zT)))|apply zD|exact zA _ _)))
end V
end Go.Proofs.YtjdbigplednihaaGreat
