/- The law RaftWins of layer 9, for every input: a node that stands wins just with a majority's votes. -/
import Derived.Test.YtjdbigplednihaaGreatWL9Wins3
set_option linter.unusedSimpArgs false
set_option linter.unusedVariables false
set_option maxRecDepth 100000
namespace Go.Proofs.YtjdbigplednihaaGreat
open Go.RowKit
namespace V
set_option maxHeartbeats 4000000
theorem ents_le {l : List Ent} (hb : ∀ e ∈ l, e.2.length ≤ 100) : entsLen l ≤ 120 * l.length := by
  induction l with
  | nil => simp [entsLen]
  | cons e l ih =>
    have h1 := ih (fun x hx => hb x (by simp [hx]))
    have h2 := hb e (by simp)
    simp [entsLen] at h1 ⊢; omega
def LG.inst (g : LG) (i t : Int) (s : Bs) : LG := if g.termAt i = some t then g.comp i s else g.base0 i t s
theorem swapD_ok {g to : LG} {D : DK} (h : (g.swapD D to).1 = 0) : (g.swapD D to).2.1 = to := by
  unfold LG.swapD at h ⊢
  split
  · rfl
  · rename_i h1; rw [if_neg h1] at h; exact absurd h h1
theorem compD_ok {g : LG} {D : DK} {i : Int} {s : Bs} (h : (g.compD D i s).1 = 0) : (g.compD D i s).2.1 = g.comp i s := by
  unfold LG.compD at h ⊢
  split at h
  · cases h
  · split at h
    · cases h
    · rename_i h1 h2
      rw [if_neg h1, if_neg h2]; exact swapD_ok h
theorem instD_ok {g : LG} {D : DK} {i t : Int} {s : Bs} (h : (g.instD D i t s).1 = 0) : (g.instD D i t s).2.1 = g.inst i t s := by
  unfold LG.instD at h ⊢
  split at h
  · cases h
  · split at h
    · cases h
    · rename_i h1 h2
      rw [if_neg h1, if_neg h2]
      unfold LG.inst
      split
      · rename_i h3; rw [if_pos h3] at h; exact compD_ok h
      · rename_i h3; rw [if_neg h3] at h; exact swapD_ok h
theorem termAt_tb {k : Nat} {x : ND} (hx : NIn k x) (i : Int) : 0 ≤ (x.g.termAt i).getD 0 ∧ (x.g.termAt i).getD 0 ≤ 2305843009213693952 + k := by
  unfold LG.termAt
  split
  · exact hx.baseT
  · cases h : x.g.at i with
    | none => simp; omega
    | some e => exact (hx.all e (LG.at_mem h)).1
theorem NIn.inst {k : Nat} {x : ND} (h : NIn k x) {i t : Int} {s : Bs} (hi : 0 ≤ i ∧ i ≤ 100000000000000) (ht : 0 ≤ t ∧ t ≤ 2305843009213693952 + k) (hs : s.length ≤ 1000000) : NIn k { x with g := x.g.inst i t s } := by
  unfold LG.inst
  split
  · exact ⟨h.idn, h.term, h.vote, hi, termAt_tb h i, hs, by have := h.alln; show (x.g.all.drop _).length ≤ _; simp; omega, fun e he => h.all e (List.mem_of_mem_drop he), h.commit, h.patience, h.peers, h.peer, h.votes, h.out⟩
  · exact ⟨h.idn, h.term, h.vote, hi, ht, hs, by show 0 ≤ _; omega, fun e he => (by cases he), h.commit, h.patience, h.peers, h.peer, h.votes, h.out⟩
theorem NIn.comm {k : Nat} {x : ND} (h : NIn k x) {c : Int} (hc : 0 ≤ c ∧ c ≤ 150000000000000) : NIn k { x with commit := c } :=
  ⟨h.idn, h.term, h.vote, h.base, h.baseT, h.state, h.alln, h.all, hc, h.patience, h.peers, h.peer, h.votes, h.out⟩
theorem NIn.follows {k : Nat} {x : ND} (h : NIn k x) (m : Msg) : NIn k (x.follows m) :=
  ⟨h.idn, h.term, h.vote, h.base, h.baseT, h.state, h.alln, h.all, h.commit, ⟨by show (0 : Int) ≤ 0; omega, by show (0 : Int) ≤ _; omega⟩, fun hr => absurd (show (0 : Int) = 2 from hr) (by decide), h.peer, h.votes, h.out⟩
theorem NOk.follows {R : Hp} {v : NV} {x : ND} (h : NOk R v x) (m : Msg) : NOk R v (x.follows m) := ⟨h.va, h.out, h.vm, h.vp, h.vo, fun hr => absurd (show (0 : Int) = 1 from hr) (by decide)⟩
theorem fed_t {R : Hp} (b : NB) (v : NV) (x : ND) (D : DK) (m : Msg) (ve : Value) (k n : Nat) (hk : k ≤ 50) (hx : NIn k x) (hv : NOk R v x) (hm : MIn k x.n m) (hve : FrX entE R m.es ve) (hD : D.ok n) (hn : n ≤ 800000000) :
    Tri Tryz.prog 43 [.pointer (some ⟨b.x, 0, none⟩), .agg ⟨msgC m ve⟩] R (ndL b v x D) (NRet b (fedN (x, D) m)) (NPan b (fedN (x, D) m)) := by
  have hveo := hve.one
  have hob := hx.out
  have hg := hx.g (by omega)
  have hlb := LG.last_b hg
  have hidx := hm.index
  have hlt := hm.logTerm
  have hco := hx.commit
  have hbs := hx.base
  have hle : x.g.last = x.g.base + x.g.all.length := rfl
  have hfo := hx.follows m
  have hfv := hv.follows m
  have hal := hx.alln
  have hen := ents_le (fun e he => (hx.all e he).2)
  refine tri_of Tryz.func43 rfl Tryz.ntmps43 rfl (fun σ F Q hret hend hpan => ?_)
  try simp only [List.cons_append, List.nil_append]
  refine cj_env (eL 0 rfl (eL 1 rfl eN)) ?_
  refine cj_seq (fun K1 hK1 => ?_)
  refine cj_region ?_
  refine rj_box (wn0 rfl) rfl rfl rfl (fun b3 => ?_)
  refine rj_nil ?_
  refine hK1 _ _ _ ?_
  refine cj_seq (fun K2 hK2 => ?_)
  refine cj_block ?_
  refine cj_seq (fun K3 hK3 => ?_)
  refine cj_draw (by kernel_rfl) (by kernel_rfl) ?_
  refine qj_val (wn0 rfl) rfl rfl (y_fieldAddr (k := 3) Tryz.underlying48 rfl (n := 1) (by decide) Tryz.sizeOf31 rfl) ?_
  first | refine qj_val (wn0 rfl) rfl rfl (y_load ⟨Tryz.isAgg31, Tryz.sizeOf31⟩ rfl (by (repeat (first|exact zH _|apply zT));done) rfl) ?_ | refine qj_val (wn0 rfl) rfl rfl (y_load_slc ⟨Tryz.isAgg31, Tryz.sizeOf31⟩ rfl (by (repeat (first|exact zH _|apply zT));done) rfl) ?_
  refine qj_val (wn0 rfl) rfl rfl (y_move rfl) ?_
  refine qj_val (wn0 rfl) rfl rfl (y_nilCheck rfl) ?_
  refine qj_val (wn0 rfl) rfl rfl (y_fieldAddr (k := 2) Tryz.underlying81 rfl (n := 1) (by decide) Tryz.sizeOf44 rfl) ?_
  first | refine qj_val (wn0 rfl) rfl rfl (y_load ⟨Tryz.isAgg44, Tryz.sizeOf44⟩ rfl (by (repeat (first|exact zH _|apply zT));done) rfl) ?_ | refine qj_val (wn0 rfl) rfl rfl (y_load_slc ⟨Tryz.isAgg44, Tryz.sizeOf44⟩ rfl (by (repeat (first|exact zH _|apply zT));done) rfl) ?_
  refine qj_val (wn0 rfl) rfl rfl (y_call Tryz.call13 rfl (lgTerm_q b.l (some ⟨b.d, 0, none⟩) v.va x.g) (by (repeat (first|exact zN _|(apply zS;focus (repeat (first|exact zH _|apply zT))))))) ?_
  refine qj_val (wn0 rfl) rfl rfl (y_lss rfl rfl) ?_
  refine qj_val (wn0 rfl) rfl rfl (y_assign rfl) ?_
  refine qj_nil ?_
  refine hK3 _ _ _ ?_
  refine cj_env (eL 0 rfl (eL 3 rfl (eL 4 rfl eN))) ?_
  refine cj_cond rfl (fun hc4 => ?_) (fun hc4 => ?_)
  ·have f1 : m.term < x.g.term := by simpa using hc4
   have hN : fedN (x, D) m = (true, (x.answer m false 0, D)) := by unfold fedN; rw [if_pos f1]
   refine cj_seq (fun K5 hK5 => ?_)
   refine cj_region ?_
   refine rv0 rfl rfl rfl (y_move rfl) ?_
   first | refine rv0 rfl rfl rfl (y_loads_blk ⟨Tryz.isAgg48, Tryz.sizeOf48⟩ rfl (by (repeat (first|exact zH _|apply zT));done) rfl rfl) ?_ | refine rv0 rfl rfl rfl (y_loads_slc ⟨Tryz.isAgg48, Tryz.sizeOf48⟩ rfl (by (repeat (first|exact zH _|apply zT));done) rfl rfl (by (first | omega | (dsimp only; omega) | (simp; done) | (simp; omega)))) ?_
   refine rj_call (wn0 rfl) rfl Tryz.call68 rfl (answer_t b v x m ve false 0 hv.out hv.vo (by omega) hveo) (by (repeat (first|exact zN _|(apply zS;focus (repeat (first|exact zH _|apply zT)))))) (fun _ _ _ _ h => h.elim) ?_
   rintro r R2 L' hR2 ⟨vo, css, hels, hvo2, rfl⟩
   try simp only [List.cons_append, List.nil_append]
   refine rj_nil ?_
   refine hK5 _ _ _ ?_
   refine cj_env eN ?_
   refine cj_ret ?_
   refine hret _ _ _ ?_
   apply ej_ret Tryz.results43 .nil _ (ndL b (v.sent vo css) (x.answer m false 0) D) (by first | exact Hp.le_refl _ | assumption) rfl
   case hp => rw [hN]; exact ⟨rfl, _, hv.sent (y := x.answer m false 0) hR2 ⟨rfl, rfl⟩ hels hvo2, rfl⟩
   case hS => (repeat (first|exact zR _|(apply zP;focus (repeat (first|exact zH _|apply zT)))|apply zD|exact zA _ _))
  ·have f1 : ¬ m.term < x.g.term := by simpa using hc4
   refine cj_seq (fun K6 hK6 => ?_)
   refine cj_region ?_
   refine rv0 rfl rfl rfl (y_move rfl) ?_
   refine rv0 rfl rfl rfl (y_nilCheck rfl) ?_
   refine rv0 rfl rfl rfl (y_fieldAddr (k := 3) Tryz.underlying81 rfl (n := 1) (by decide) Tryz.sizeOf3 rfl) ?_
   first | refine rv0 rfl rfl rfl (y_load ⟨Tryz.isAgg3, Tryz.sizeOf3⟩ rfl (by (repeat (first|exact zH _|apply zT));done) rfl) ?_ | refine rv0 rfl rfl rfl (y_load_slc ⟨Tryz.isAgg3, Tryz.sizeOf3⟩ rfl (by (repeat (first|exact zH _|apply zT));done) rfl) ?_
   refine rv0 rfl rfl rfl (y_eql rfl rfl) ?_
   refine rv0 rfl rfl rfl (y_assign rfl) ?_
   refine rj_nil ?_
   refine hK6 _ _ _ ?_
   refine cj_env (eL 0 rfl (eL 3 rfl (eL 16 rfl eN))) ?_
   refine cj_cond rfl (fun hc16 => ?_) (fun hc16 => ?_)
   ·have f2 : x.role = 2 := by simpa using hc16
    have hN : fedN (x, D) m = (true, (x, D)) := by unfold fedN; rw [if_neg f1, if_pos f2]
    refine cj_ret ?_
    refine hret _ _ _ ?_
    apply ej_ret Tryz.results43 .nil _ (ndL b v x D) (by first | exact Hp.le_refl _ | assumption) rfl
    case hp => rw [hN]; exact ⟨rfl, v, hv, rfl⟩
    case hS => (repeat (first|exact zR _|(apply zP;focus (repeat (first|exact zH _|apply zT)))|apply zD|exact zA _ _))
   ·have f2 : ¬ x.role = 2 := by simpa using hc16
    refine cj_skip ?_
    refine hK2 _ _ _ ?_
    refine cj_seq (fun K8 hK8 => ?_)
    refine cj_mixg (L := [blk b3 (msgC m ve) 48]) [0, 1, 2, 3, 4, 5, 6] [7, 8, 9, 10] [11, 12, 13] _ (by (repeat (first|exact zR _|(apply zP;focus (repeat (first|exact zH _|apply zT)))|apply zD|exact zA _ _))) (by kernel_rfl) (by kernel_rfl) (by kernel_rfl) rfl ?_
    refine fj_val rfl rfl rfl (wn0 rfl) (fun R1 hR1 G => (y_move rfl)) ?_
    refine fj_val rfl rfl rfl (wn0 rfl) (fun R1 hR1 G => (y_move rfl)) ?_
    refine fj_val rfl rfl rfl (wn0 rfl) (fun R1 hR1 G => (y_move rfl)) ?_
    refine fj_val rfl rfl rfl (wn0 rfl) (fun R1 hR1 G => (y_fieldAddr (k := 1) Tryz.underlying48 rfl (n := 1) (by decide) Tryz.sizeOf3 rfl)) ?_
    first | refine fj_val rfl rfl rfl (wn0 rfl) (fun R1 hR1 G => (y_load ⟨Tryz.isAgg3, Tryz.sizeOf3⟩ rfl (by (repeat (first|exact zH _|apply zT));done) rfl)) ?_ | refine fj_val rfl rfl rfl (wn0 rfl) (fun R1 hR1 G => (y_load_slc ⟨Tryz.isAgg3, Tryz.sizeOf3⟩ rfl (by (repeat (first|exact zH _|apply zT));done) rfl)) ?_
    refine fj_val rfl rfl rfl (wn0 rfl) (fun R1 hR1 G => (y_nilCheck rfl)) ?_
    refine fj_val rfl rfl rfl (wn0 rfl) (fun R1 hR1 G => (y_fieldAddr (k := 3) Tryz.underlying81 rfl (n := 1) (by decide) Tryz.sizeOf3 rfl)) ?_
    refine fj_nil ?_
    refine xj_rj rfl ?_
    try simp only [List.cons_append, List.nil_append, List.append_nil]
    refine rj_store ⟨Tryz.isAgg3, Tryz.sizeOf3⟩ (wn0 rfl) rfl rfl (by (first | rfl | assumption | (apply cutV_one; assumption))) (by (repeat (first|exact zH _|apply zT));done) rfl rfl ?_
    refine rj_xk (by (first | exact Hp.le_refl _ | assumption | exact Hp.le_trans ‹_› ‹_›)) (by (repeat (first|exact zR _|(apply zP;focus (repeat (first|exact zH _|apply zT)))|apply zD|exact zA _ _))) ?_
    refine xj_rj rfl ?_
    try simp only [List.cons_append, List.nil_append, List.append_nil]
    refine rv0 rfl rfl rfl (y_nilCheck rfl) ?_
    refine rj_xk (by (first | exact Hp.le_refl _ | assumption | exact Hp.le_trans ‹_› ‹_›)) (by (repeat (first|exact zR _|(apply zP;focus (repeat (first|exact zH _|apply zT)))|apply zD|exact zA _ _))) ?_
    refine xj_rj rfl ?_
    try simp only [List.cons_append, List.nil_append, List.append_nil]
    refine rv0 rfl rfl rfl (y_fieldAddr (k := 4) Tryz.underlying81 rfl (n := 1) (by decide) Tryz.sizeOf3 rfl) ?_
    refine rj_xk (by (first | exact Hp.le_refl _ | assumption | exact Hp.le_trans ‹_› ‹_›)) (by (repeat (first|exact zR _|(apply zP;focus (repeat (first|exact zH _|apply zT)))|apply zD|exact zA _ _))) ?_
    refine xj_rj rfl ?_
    try simp only [List.cons_append, List.nil_append, List.append_nil]
    refine rj_store ⟨Tryz.isAgg3, Tryz.sizeOf3⟩ (wn0 rfl) rfl rfl (by (first | rfl | assumption | (apply cutV_one; assumption))) (by (repeat (first|exact zH _|apply zT));done) rfl rfl ?_
    refine rj_xk (by (first | exact Hp.le_refl _ | assumption | exact Hp.le_trans ‹_› ‹_›)) (by (repeat (first|exact zR _|(apply zP;focus (repeat (first|exact zH _|apply zT)))|apply zD|exact zA _ _))) ?_
    refine xj_nil ?_
    try simp only [List.cons_append, List.nil_append, List.append_nil]
    refine rv0 rfl rfl rfl (y_nilCheck rfl) ?_
    refine rv0 rfl rfl rfl (y_fieldAddr (k := 6) Tryz.underlying81 rfl (n := 1) (by decide) Tryz.sizeOf3 rfl) ?_
    refine rj_store ⟨Tryz.isAgg3, Tryz.sizeOf3⟩ (wn0 rfl) rfl rfl (by (first | rfl | assumption | (apply cutV_one; assumption))) (by (repeat (first|exact zH _|apply zT));done) rfl rfl ?_
    refine rj_nil ?_
    refine hK8 _ _ _ ?_
    refine cj_env (eL 0 rfl (eL 3 rfl eN)) ?_
    refine cj_seq (fun K9 hK9 => ?_)
    refine cj_seq (fun K10 hK10 => ?_)
    refine cj_region ?_
    refine rv0 rfl rfl rfl (y_fieldAddr (k := 0) Tryz.underlying48 rfl (n := 1) (by decide) Tryz.sizeOf3 rfl) ?_
    first | refine rv0 rfl rfl rfl (y_load ⟨Tryz.isAgg3, Tryz.sizeOf3⟩ rfl (by (repeat (first|exact zH _|apply zT));done) rfl) ?_ | refine rv0 rfl rfl rfl (y_load_slc ⟨Tryz.isAgg3, Tryz.sizeOf3⟩ rfl (by (repeat (first|exact zH _|apply zT));done) rfl) ?_
    refine rv0 rfl rfl rfl (y_eql rfl rfl) ?_
    refine rj_nil ?_
    refine hK10 _ _ _ ?_
    refine cj_cond rfl (fun hc35 => ?_) (fun hc35 => ?_)
    ·have f3 : m.kind = 2 := by simpa using hc35
     have hN : fedN (x, D) m = addN (x.follows m, D) m := by unfold fedN; rw [if_neg f1, if_neg f2, if_pos f3]
     refine cj_seq (fun K12 hK12 => ?_)
     refine cj_region ?_
     refine rv0 rfl rfl rfl (y_move rfl) ?_
     first | refine rv0 rfl rfl rfl (y_loads_blk ⟨Tryz.isAgg48, Tryz.sizeOf48⟩ rfl (by (repeat (first|exact zH _|apply zT));done) rfl rfl) ?_ | refine rv0 rfl rfl rfl (y_loads_slc ⟨Tryz.isAgg48, Tryz.sizeOf48⟩ rfl (by (repeat (first|exact zH _|apply zT));done) rfl rfl (by (first | omega | (dsimp only; omega) | (simp; done) | (simp; omega)))) ?_
     refine rj_call (wn0 rfl) rfl Tryz.call69 rfl (add_t b v (x.follows m) D m ve k n hk hfo hfv hm hve hD hn) (by (repeat (first|exact zN _|(apply zS;focus (repeat (first|exact zH _|apply zT)))))) (fun ch Rp Lp hRp hpp => ?_) ?_
     · obtain ⟨hF, rfl, v3, hv3, rfl⟩ := hpp
       try simp only [List.cons_append, List.nil_append]
       refine hpan _ _ _ _ ?_
       refine ej_pan _ (ndL b v3 (addN (x.follows m, D) m).2.1 (addN (x.follows m, D) m).2.2) (by first | exact Hp.le_refl _ | assumption | exact Hp.le_trans ‹_› ‹_›) rfl (by (repeat (first|exact zR _|(apply zP;focus (repeat (first|exact zH _|apply zT)))|apply zD|exact zA _ _))) ?_
       exact ⟨by rw [hN]; exact hF, rfl, v3, by rw [hN]; exact hv3, by rw [hN]⟩
     rintro r R8 L' hR8 ⟨hF, v3, hv3, rfl⟩
     try simp only [List.cons_append, List.nil_append]
     refine rj_nil ?_
     refine hK12 _ _ _ ?_
     refine cj_env eN ?_
     refine cj_ret ?_
     refine hret _ _ _ ?_
     apply ej_ret Tryz.results43 .nil _ (ndL b v3 (addN (x.follows m, D) m).2.1 (addN (x.follows m, D) m).2.2) (by first | exact Hp.le_refl _ | assumption) rfl
     case hp => rw [hN]; exact ⟨hF, v3, hv3, rfl⟩
     case hS => (repeat (first|exact zR _|(apply zP;focus (repeat (first|exact zH _|apply zT)))|apply zD|exact zA _ _))
    ·have f3 : ¬ m.kind = 2 := by simpa using hc35
     have hN : fedN (x, D) m = snapN (x.follows m, D) m := by unfold fedN; rw [if_neg f1, if_neg f2, if_neg f3]
     refine cj_skip ?_
     refine hK9 _ _ _ ?_
     refine cj_env (eL 0 rfl (eL 3 rfl eN)) ?_
     refine cj_seq (fun K13 hK13 => ?_)
     have hJ10 : ∀ (x9 : ND × NV × DK × Hp), NIn (k + 1) x9.1 ∧ NOk x9.2.2.2 x9.2.1 x9.1 ∧ R.le x9.2.2.2 ∧ fedN (x, D) m = (true, (x9.1.answer m true x9.1.commit, x9.2.2.1)) → EJ ⟨Tryz.prog, 71, σ⟩ K13 [(0, .pointer (some ⟨b.x, 0, none⟩)), (3, .pointer (some ⟨b3, 0, none⟩))] x9.2.2.2 (blk b3 (msgC m ve) 48 :: ndB b x9.2.1 x9.1 :: lgN b x9.2.1 x9.1 :: dkB b.d x9.2.1.u x9.2.2.1 :: dkS x9.2.1.u x9.2.2.1 :: prA x9.2.1 x9.1 :: mpA x9.2.1.vm x9.1.votes :: outA x9.2.1 x9.1 :: F) := by
      rintro ⟨y, v2, D2, R2⟩ ⟨hy, hv2, hR2, hF⟩
      try dsimp only
      dsimp only at hy hv2 hR2 hF
      have hyo := hy.out
      refine hK13 _ _ _ ?_
      refine cj_mixg (L := [blk b3 (msgC m ve) 48, ndB b v2 y]) [0, 1, 2, 3, 4, 5] [] [6] _ (by (repeat (first|exact zR _|(apply zP;focus (repeat (first|exact zH _|apply zT)))|apply zD|exact zA _ _))) (by kernel_rfl) (by kernel_rfl) (by kernel_rfl) rfl ?_
      refine fj_val rfl rfl rfl (wn0 rfl) (fun R1 hR1 G => (y_move rfl)) ?_
      first | refine fj_val rfl rfl rfl (wn0 rfl) (fun R1 hR1 G => (y_loads_blk ⟨Tryz.isAgg48, Tryz.sizeOf48⟩ rfl (by (repeat (first|exact zH _|apply zT));done) rfl rfl)) ?_ | refine fj_val rfl rfl rfl (wn0 rfl) (fun R1 hR1 G => (y_loads_slc ⟨Tryz.isAgg48, Tryz.sizeOf48⟩ rfl (by (repeat (first|exact zH _|apply zT));done) rfl rfl (by (first | omega | (dsimp only; omega) | (simp; done) | (simp; omega))))) ?_
      refine fj_val rfl rfl rfl (wn0 rfl) (fun R1 hR1 G => (y_move rfl)) ?_
      refine fj_val rfl rfl rfl (wn0 rfl) (fun R1 hR1 G => (y_nilCheck rfl)) ?_
      refine fj_val rfl rfl rfl (wn0 rfl) (fun R1 hR1 G => (y_fieldAddr (k := 5) Tryz.underlying81 rfl (n := 1) (by decide) Tryz.sizeOf31 rfl)) ?_
      first | refine fj_val rfl rfl rfl (wn0 rfl) (fun R1 hR1 G => (y_load ⟨Tryz.isAgg31, Tryz.sizeOf31⟩ rfl (by (repeat (first|exact zH _|apply zT));done) rfl)) ?_ | refine fj_val rfl rfl rfl (wn0 rfl) (fun R1 hR1 G => (y_load_slc ⟨Tryz.isAgg31, Tryz.sizeOf31⟩ rfl (by (repeat (first|exact zH _|apply zT));done) rfl)) ?_
      refine fj_nil ?_
      refine xj_nil ?_
      try simp only [List.cons_append, List.nil_append, List.append_nil]
      refine rj_call (wn0 rfl) rfl Tryz.call68 rfl (answer_t b v2 y m ve true y.commit hv2.out hv2.vo (by omega) hveo) (by (repeat (first|exact zN _|(apply zS;focus (repeat (first|exact zH _|apply zT)))))) (fun _ _ _ _ h => h.elim) ?_
      rintro r R6 L' hR6 ⟨vo, css, hels, hvo2, rfl⟩
      have hR26 := Hp.le_trans hR2 hR6
      try simp only [List.cons_append, List.nil_append]
      refine rj_nil ?_
      refine hend _ _ _ ?_
      apply ej_end Tryz.results43 .nil _ (ndL b (v2.sent vo css) (y.answer m true y.commit) D2) (by first | exact Hp.le_refl _ | assumption) rfl
      case hp => rw [hF]; exact ⟨rfl, _, hv2.sent (y := y.answer m true y.commit) hR6 ⟨rfl, rfl⟩ hels hvo2, rfl⟩
      case hS => (repeat (first|exact zR _|(apply zP;focus (repeat (first|exact zH _|apply zT)))|apply zD|exact zA _ _))
     refine cj_seq (fun K14 hK14 => ?_)
     refine cj_draw (by kernel_rfl) (by kernel_rfl) ?_
     refine qj_val (wn0 rfl) rfl rfl (y_fieldAddr (k := 4) Tryz.underlying48 rfl (n := 1) (by decide) Tryz.sizeOf31 rfl) ?_
     first | refine qj_val (wn0 rfl) rfl rfl (y_load ⟨Tryz.isAgg31, Tryz.sizeOf31⟩ rfl (by (repeat (first|exact zH _|apply zT));done) rfl) ?_ | refine qj_val (wn0 rfl) rfl rfl (y_load_slc ⟨Tryz.isAgg31, Tryz.sizeOf31⟩ rfl (by (repeat (first|exact zH _|apply zT));done) rfl) ?_
     refine qj_val (wn0 rfl) rfl rfl (y_move rfl) ?_
     refine qj_val (wn0 rfl) rfl rfl (y_nilCheck rfl) ?_
     refine qj_val (wn0 rfl) rfl rfl (y_fieldAddr (k := 5) Tryz.underlying81 rfl (n := 1) (by decide) Tryz.sizeOf31 rfl) ?_
     first | refine qj_val (wn0 rfl) rfl rfl (y_load ⟨Tryz.isAgg31, Tryz.sizeOf31⟩ rfl (by (repeat (first|exact zH _|apply zT));done) rfl) ?_ | refine qj_val (wn0 rfl) rfl rfl (y_load_slc ⟨Tryz.isAgg31, Tryz.sizeOf31⟩ rfl (by (repeat (first|exact zH _|apply zT));done) rfl) ?_
     refine qj_val (wn0 rfl) rfl rfl (y_gtr rfl rfl) ?_
     refine qj_nil ?_
     refine hK14 _ _ _ ?_
     refine cj_env (eL 0 rfl (eL 3 rfl (eL 45 rfl eN))) ?_
     refine cj_cond rfl (fun hc45 => ?_) (fun hc45 => ?_)
     ·have f4 : m.index > x.commit := by (try simp at hc45); omega
      obtain ⟨ra, hra⟩ : ∃ r, r = x.g.instD D m.index m.logTerm m.state := ⟨_, rfl⟩
      have hS : snapN (x.follows m, D) m = bindN (mustN (x.follows m, D) ra) fun s => (true, ({ s.1 with commit := m.index }.answer m true m.index, s.2)) := by unfold snapN; rw [if_pos (show m.index > (x.follows m).commit from f4), hra]; rfl
      rw [hS] at hN
      refine cj_seq (fun K16 hK16 => ?_)
      refine cj_mixg (L := [blk b3 (msgC m ve) 48, ndB b v (x.follows m)]) [0, 1, 2, 3, 4, 5, 6, 7, 8, 9, 10] [11] [12] _ (by (repeat (first|exact zR _|(apply zP;focus (repeat (first|exact zH _|apply zT)))|apply zD|exact zA _ _))) (by kernel_rfl) (by kernel_rfl) (by kernel_rfl) rfl ?_
      refine fj_val rfl rfl rfl (wn0 rfl) (fun R1 hR1 G => (y_move rfl)) ?_
      refine fj_val rfl rfl rfl (wn0 rfl) (fun R1 hR1 G => (y_move rfl)) ?_
      refine fj_val rfl rfl rfl (wn0 rfl) (fun R1 hR1 G => (y_nilCheck rfl)) ?_
      refine fj_val rfl rfl rfl (wn0 rfl) (fun R1 hR1 G => (y_fieldAddr (k := 2) Tryz.underlying81 rfl (n := 1) (by decide) Tryz.sizeOf44 rfl)) ?_
      first | refine fj_val rfl rfl rfl (wn0 rfl) (fun R1 hR1 G => (y_load ⟨Tryz.isAgg44, Tryz.sizeOf44⟩ rfl (by (repeat (first|exact zH _|apply zT));done) rfl)) ?_ | refine fj_val rfl rfl rfl (wn0 rfl) (fun R1 hR1 G => (y_load_slc ⟨Tryz.isAgg44, Tryz.sizeOf44⟩ rfl (by (repeat (first|exact zH _|apply zT));done) rfl)) ?_
      refine fj_val rfl rfl rfl (wn0 rfl) (fun R1 hR1 G => (y_fieldAddr (k := 4) Tryz.underlying48 rfl (n := 1) (by decide) Tryz.sizeOf31 rfl)) ?_
      first | refine fj_val rfl rfl rfl (wn0 rfl) (fun R1 hR1 G => (y_load ⟨Tryz.isAgg31, Tryz.sizeOf31⟩ rfl (by (repeat (first|exact zH _|apply zT));done) rfl)) ?_ | refine fj_val rfl rfl rfl (wn0 rfl) (fun R1 hR1 G => (y_load_slc ⟨Tryz.isAgg31, Tryz.sizeOf31⟩ rfl (by (repeat (first|exact zH _|apply zT));done) rfl)) ?_
      refine fj_val rfl rfl rfl (wn0 rfl) (fun R1 hR1 G => (y_fieldAddr (k := 5) Tryz.underlying48 rfl (n := 1) (by decide) Tryz.sizeOf31 rfl)) ?_
      first | refine fj_val rfl rfl rfl (wn0 rfl) (fun R1 hR1 G => (y_load ⟨Tryz.isAgg31, Tryz.sizeOf31⟩ rfl (by (repeat (first|exact zH _|apply zT));done) rfl)) ?_ | refine fj_val rfl rfl rfl (wn0 rfl) (fun R1 hR1 G => (y_load_slc ⟨Tryz.isAgg31, Tryz.sizeOf31⟩ rfl (by (repeat (first|exact zH _|apply zT));done) rfl)) ?_
      refine fj_val rfl rfl rfl (wn0 rfl) (fun R1 hR1 G => (y_fieldAddr (k := 9) Tryz.underlying48 rfl (n := 1) (by decide) Tryz.sizeOf9 rfl)) ?_
      first | refine fj_val rfl rfl rfl (wn0 rfl) (fun R1 hR1 G => (y_load ⟨Tryz.isAgg9, Tryz.sizeOf9⟩ rfl (by (repeat (first|exact zH _|apply zT));done) rfl)) ?_ | refine fj_val rfl rfl rfl (wn0 rfl) (fun R1 hR1 G => (y_load_slc ⟨Tryz.isAgg9, Tryz.sizeOf9⟩ rfl (by (repeat (first|exact zH _|apply zT));done) rfl)) ?_
      refine fj_nil ?_
      refine xj_rj rfl ?_
      try simp only [List.cons_append, List.nil_append, List.append_nil]
      refine rj_call (wn0 rfl) rfl Tryz.call70 rfl (lgInstall_t b.l b.d v.va v.u x.g D n m.index m.logTerm m.state hg (by omega) (by unfold u64B; omega) hv.va hm.state (by omega) (by omega) hD) (by (repeat (first|exact zN _|(apply zS;focus (repeat (first|exact zH _|apply zT)))))) (fun _ _ _ _ h => h.elim) ?_
      rintro r R4 L' hR4 ⟨rfl, u2, va2, hva2, rfl⟩
      rw [← hra] at hva2 ⊢
      try simp only [List.cons_append, List.nil_append]
      refine rj_xk (by (first | exact Hp.le_refl _ | assumption | exact Hp.le_trans ‹_› ‹_›)) (by (repeat (first|exact zR _|(apply zP;focus (repeat (first|exact zH _|apply zT)))|apply zD|exact zA _ _))) ?_
      refine xj_nil ?_
      try simp only [List.cons_append, List.nil_append, List.append_nil]
      refine rj_call (wn0 rfl) rfl Tryz.call39 rfl (must_t b (v.logd u2 va2) (x.follows m) _) (by (repeat (first|exact zN _|(apply zS;focus (repeat (first|exact zH _|apply zT)))))) (fun ch Rp Lp hRp hpp => ?_) ?_
      · obtain ⟨he1, rfl, rfl⟩ := hpp
        try simp only [List.cons_append, List.nil_append]
        refine hpan _ _ _ _ ?_
        refine ej_pan _ (ndL b (v.logd u2 va2) { (x.follows m) with g := ra.2.1, down := true } ra.2.2) (by first | exact Hp.le_refl _ | assumption | exact Hp.le_trans ‹_› ‹_› | exact Hp.le_trans hR4 hRp) rfl (by (repeat (first|exact zR _|(apply zP;focus (repeat (first|exact zH _|apply zT)))|apply zD|exact zA _ _))) ?_
        exact ⟨by rw [hN]; simp [bindN, mustN, he1], rfl, v.logd u2 va2, by rw [hN]; simp only [bindN, mustN, if_neg he1]; exact hfv.logd (y := { (x.follows m) with g := ra.2.1, down := true }) (Hp.le_trans hR4 hRp) ⟨rfl, rfl⟩ (hva2.mono hRp), by rw [hN]; simp [bindN, mustN, he1]⟩
      rintro r R5 L' hR5 ⟨he0, rfl⟩
      have hx1 : NIn (k + 1) { (x.follows m) with g := ra.2.1, commit := m.index } := by rw [hra, instD_ok (by rw [← hra]; exact he0)]; exact ((hfo.inst hidx hlt hm.state).comm (by omega)).le (by omega)
      have hR45 := Hp.le_trans hR4 hR5
      have hv1 : NOk R5 (v.logd u2 va2) { (x.follows m) with g := ra.2.1, commit := m.index } := hfv.logd (y := { (x.follows m) with g := ra.2.1, commit := m.index }) hR45 ⟨rfl, rfl⟩ (hva2.mono hR5)
      try simp only [List.cons_append, List.nil_append]
      refine rj_nil ?_
      refine hK16 _ _ _ ?_
      refine cj_env (eL 0 rfl (eL 3 rfl eN)) ?_
      refine cj_region ?_
      refine rv0 rfl rfl rfl (y_move rfl) ?_
      refine rv0 rfl rfl rfl (y_fieldAddr (k := 4) Tryz.underlying48 rfl (n := 1) (by decide) Tryz.sizeOf31 rfl) ?_
      first | refine rv0 rfl rfl rfl (y_load ⟨Tryz.isAgg31, Tryz.sizeOf31⟩ rfl (by (repeat (first|exact zH _|apply zT));done) rfl) ?_ | refine rv0 rfl rfl rfl (y_load_slc ⟨Tryz.isAgg31, Tryz.sizeOf31⟩ rfl (by (repeat (first|exact zH _|apply zT));done) rfl) ?_
      refine rv0 rfl rfl rfl (y_nilCheck rfl) ?_
      refine rv0 rfl rfl rfl (y_fieldAddr (k := 5) Tryz.underlying81 rfl (n := 1) (by decide) Tryz.sizeOf31 rfl) ?_
      refine rj_store ⟨Tryz.isAgg31, Tryz.sizeOf31⟩ (wn0 rfl) rfl rfl (by (first | rfl | assumption | (apply cutV_one; assumption))) (by (repeat (first|exact zH _|apply zT));done) rfl rfl ?_
      refine rj_nil ?_
      refine ej_join hJ10 (({ (x.follows m) with g := ra.2.1, commit := m.index }, v.logd u2 va2, ra.2.2, R5)) (⟨hx1, hv1, hR45, by rw [hN]; simp [bindN, mustN, he0]⟩) (eC rfl (eC rfl eN)) rfl (by (repeat (first|exact zR _|(apply zP;focus (repeat (first|exact zH _|apply zT)))|apply zD|exact zA _ _)))
     ·have f4 : ¬ m.index > x.commit := by (try simp at hc45); omega
      have hS : snapN (x.follows m, D) m = (true, ((x.follows m).answer m true x.commit, D)) := by unfold snapN; rw [if_neg (show ¬ m.index > (x.follows m).commit from f4)]; rfl
      rw [hS] at hN
      refine cj_skip ?_
      refine ej_join hJ10 ((x.follows m, v, D, R)) (⟨hfo.le (by omega), hfv, Hp.le_refl _, hN⟩) (eC rfl (eC rfl eN)) rfl (by (repeat (first|exact zR _|(apply zP;focus (repeat (first|exact zH _|apply zT)))|apply zD|exact zA _ _)))
end V
end Go.Proofs.YtjdbigplednihaaGreat
set_option linter.unusedSimpArgs false
set_option linter.unusedVariables false
set_option maxRecDepth 100000
namespace Go.Proofs.YtjdbigplednihaaGreat
open Go.RowKit
namespace V
set_option maxHeartbeats 4000000
structure MIm (k : Nat) (m : Msg) : Prop where
  term : 0 ≤ m.term ∧ m.term ≤ 2305843009213693952 + k
  index : 0 ≤ m.index ∧ m.index ≤ 100000000000000
  logTerm : 0 ≤ m.logTerm ∧ m.logTerm ≤ 2305843009213693952 + k
  commit : 0 ≤ m.commit ∧ m.commit < 18446744073709551616
  es : m.es.length ≤ 20 ∧ ∀ e ∈ m.es, (0 ≤ e.1 ∧ e.1 ≤ 2305843009213693952 + k) ∧ e.2.length ≤ 100
  state : m.state.length ≤ 1000000
theorem MIm.to {k j n : Nat} {m : Msg} (h : MIm k m) (hf : 0 ≤ m.frm ∧ m.frm < n) (hk : k ≤ j) : MIn j n m := MIn.le (k := k) ⟨hf, h.term, h.index, h.logTerm, h.commit, h.es, h.state⟩ hk
theorem NIn.newTerm {k : Nat} {x : ND} (h : NIn k x) : NIn k x.newTerm :=
  ⟨h.idn, h.term, h.vote, h.base, h.baseT, h.state, h.alln, h.all, h.commit, h.patience, fun hr => absurd (show (0 : Int) = 2 from hr) (by decide), h.peer, h.votes, h.out⟩
theorem NOk.newTerm {R : Hp} {v : NV} {x : ND} (h : NOk R v x) : NOk R v x.newTerm := ⟨h.va, h.out, h.vm, h.vp, h.vo, fun hr => absurd (show (0 : Int) = 1 from hr) (by decide)⟩
theorem DK.ok_le {D : DK} {n m : Nat} (h : D.ok n) (hm : n ≤ m) : D.ok m := ⟨h.1, by have := h.2.1; omega, h.2.2⟩
theorem receive1_t {R : Hp} (b : NB) (v : NV) (x : ND) (D : DK) (m : Msg) (ve : Value) (k n bX bM : Nat) (hk : k ≤ 40) (hx : NIn k x) (hv : NOk R v x) (hm : MIm k m) (hve : FrX entE R m.es ve) (hD : D.ok n) (hn : n ≤ 700000000) :
    Tri Tryz.prog 38 [.pointer (some ⟨bM, 0, none⟩), .pointer (some ⟨bX, 0, none⟩)] R (blk bX [.pointer (some ⟨b.x, 0, none⟩)] 30 :: blk bM (msgC m ve) 48 :: ndL b v x D) (NRet b (receiveN (x, D) m)) (NPan b (receiveN (x, D) m)) := by
  have hg := hx.g (by omega)
  have hmt := hm.term
  refine tri_of Tryz.func38 rfl Tryz.ntmps38 rfl (fun σ F Q hret hend hpan => ?_)
  try simp only [List.cons_append, List.nil_append]
  refine cj_env (eL 0 rfl (eL 1 rfl eN)) ?_
  refine cj_seq (fun K1 hK1 => ?_)
  refine cj_seq (fun K2 hK2 => ?_)
  refine cj_draw (by kernel_rfl) (by kernel_rfl) ?_
  refine qj_val (wn0 rfl) rfl rfl (y_fieldAddr (k := 2) Tryz.underlying48 rfl (n := 1) (by decide) Tryz.sizeOf3 rfl) ?_
  first | refine qj_val (wn0 rfl) rfl rfl (y_load ⟨Tryz.isAgg3, Tryz.sizeOf3⟩ rfl (by (repeat (first|exact zH _|apply zT));done) rfl) ?_ | refine qj_val (wn0 rfl) rfl rfl (y_load_slc ⟨Tryz.isAgg3, Tryz.sizeOf3⟩ rfl (by (repeat (first|exact zH _|apply zT));done) rfl) ?_
  first | refine qj_val (wn0 rfl) rfl rfl (y_load ⟨Tryz.isAgg30, Tryz.sizeOf30⟩ rfl (by (repeat (first|exact zH _|apply zT));done) rfl) ?_ | refine qj_val (wn0 rfl) rfl rfl (y_load_slc ⟨Tryz.isAgg30, Tryz.sizeOf30⟩ rfl (by (repeat (first|exact zH _|apply zT));done) rfl) ?_
  refine qj_val (wn0 rfl) rfl rfl (y_nilCheck rfl) ?_
  refine qj_val (wn0 rfl) rfl rfl (y_fieldAddr (k := 0) Tryz.underlying81 rfl (n := 1) (by decide) Tryz.sizeOf3 rfl) ?_
  first | refine qj_val (wn0 rfl) rfl rfl (y_load ⟨Tryz.isAgg3, Tryz.sizeOf3⟩ rfl (by (repeat (first|exact zH _|apply zT));done) rfl) ?_ | refine qj_val (wn0 rfl) rfl rfl (y_load_slc ⟨Tryz.isAgg3, Tryz.sizeOf3⟩ rfl (by (repeat (first|exact zH _|apply zT));done) rfl) ?_
  refine qj_val (wn0 rfl) rfl rfl (y_neq rfl rfl) ?_
  refine qj_val (wn0 rfl) rfl rfl (y_move rfl) ?_
  refine qj_part 9 rfl (fun hg9 => ?_) (fun hg9 => ?_)
  ·have f0 : ¬ m.to = x.id ∨ m.frm = x.id ∨ m.frm < 0 ∨ m.frm ≥ x.n := .inl (by simpa using hg9)
   refine qj_skip (wn2 rfl rfl rfl rfl rfl) rfl rfl ?_
   refine qj_skip (wn2 rfl rfl rfl rfl rfl) rfl rfl ?_
   refine qj_skip (wn2 rfl rfl rfl rfl rfl) rfl rfl ?_
   refine qj_skip (wn2 rfl rfl rfl rfl rfl) rfl rfl ?_
   refine qj_skip (wn2 rfl rfl rfl rfl rfl) rfl rfl ?_
   refine qj_skip (wn2 rfl rfl rfl rfl rfl) rfl rfl ?_
   refine qj_skip (wn2 rfl rfl rfl rfl rfl) rfl rfl ?_
   refine qj_val (wn0 rfl) rfl rfl (y_pick_t rfl rfl) ?_
   refine qj_val (wn0 rfl) rfl rfl (y_move rfl) ?_
   refine qj_skip (wn2 rfl rfl rfl rfl rfl) rfl rfl ?_
   refine qj_skip (wn2 rfl rfl rfl rfl rfl) rfl rfl ?_
   refine qj_skip (wn2 rfl rfl rfl rfl rfl) rfl rfl ?_
   refine qj_val (wn0 rfl) rfl rfl (y_pick_t rfl rfl) ?_
   refine qj_val (wn0 rfl) rfl rfl (y_move rfl) ?_
   refine qj_skip (wn2 rfl rfl rfl rfl rfl) rfl rfl ?_
   refine qj_skip (wn2 rfl rfl rfl rfl rfl) rfl rfl ?_
   refine qj_skip (wn2 rfl rfl rfl rfl rfl) rfl rfl ?_
   refine qj_skip (wn2 rfl rfl rfl rfl rfl) rfl rfl ?_
   refine qj_skip (wn2 rfl rfl rfl rfl rfl) rfl rfl ?_
   refine qj_skip (wn2 rfl rfl rfl rfl rfl) rfl rfl ?_
   refine qj_skip (wn2 rfl rfl rfl rfl rfl) rfl rfl ?_
   refine qj_val (wn0 rfl) rfl rfl (y_pick_t rfl rfl) ?_
   refine qj_nil ?_
   refine hK2 _ _ _ ?_
   refine cj_env (eL 0 rfl (eL 1 rfl (eL 31 rfl eN))) ?_
   refine cj_cond_t rfl ?_
   refine cj_ret ?_
   refine hret _ _ _ ?_
   apply ej_ret Tryz.results38 .nil _ (ndL b v x D) (by first | exact Hp.le_refl _ | assumption) rfl
   case hp => rw [show receiveN (x, D) m = (true, (x, D)) by unfold receiveN; rw [if_pos f0]]; exact ⟨rfl, v, hv, rfl⟩
   case hS => (repeat (first|exact zR _|(apply zP;focus (repeat (first|exact zH _|apply zT)))|apply zD|exact zA _ _))
  ·have f1 : m.to = x.id := by simpa using hg9
   refine qj_val (wn1 rfl rfl rfl rfl) rfl rfl (y_fieldAddr (k := 1) Tryz.underlying48 rfl (n := 1) (by decide) Tryz.sizeOf3 rfl) ?_
   first | refine qj_val (wn1 rfl rfl rfl rfl) rfl rfl (y_load ⟨Tryz.isAgg3, Tryz.sizeOf3⟩ rfl (by (repeat (first|exact zH _|apply zT));done) rfl) ?_ | refine qj_val (wn1 rfl rfl rfl rfl) rfl rfl (y_load_slc ⟨Tryz.isAgg3, Tryz.sizeOf3⟩ rfl (by (repeat (first|exact zH _|apply zT));done) rfl) ?_
   first | refine qj_val (wn1 rfl rfl rfl rfl) rfl rfl (y_load ⟨Tryz.isAgg30, Tryz.sizeOf30⟩ rfl (by (repeat (first|exact zH _|apply zT));done) rfl) ?_ | refine qj_val (wn1 rfl rfl rfl rfl) rfl rfl (y_load_slc ⟨Tryz.isAgg30, Tryz.sizeOf30⟩ rfl (by (repeat (first|exact zH _|apply zT));done) rfl) ?_
   refine qj_val (wn1 rfl rfl rfl rfl) rfl rfl (y_nilCheck rfl) ?_
   refine qj_val (wn1 rfl rfl rfl rfl) rfl rfl (y_fieldAddr (k := 0) Tryz.underlying81 rfl (n := 1) (by decide) Tryz.sizeOf3 rfl) ?_
   first | refine qj_val (wn1 rfl rfl rfl rfl) rfl rfl (y_load ⟨Tryz.isAgg3, Tryz.sizeOf3⟩ rfl (by (repeat (first|exact zH _|apply zT));done) rfl) ?_ | refine qj_val (wn1 rfl rfl rfl rfl) rfl rfl (y_load_slc ⟨Tryz.isAgg3, Tryz.sizeOf3⟩ rfl (by (repeat (first|exact zH _|apply zT));done) rfl) ?_
   refine qj_val (wn1 rfl rfl rfl rfl) rfl rfl (y_eql rfl rfl) ?_
   refine qj_val (wn0 rfl) rfl rfl (y_pick_f rfl rfl) ?_
   refine qj_val (wn0 rfl) rfl rfl (y_move rfl) ?_
   refine qj_part 18 rfl (fun hg18 => ?_) (fun hg18 => ?_)
   ·first|(have f0 : ¬ m.to = x.id ∨ m.frm = x.id ∨ m.frm < 0 ∨ m.frm ≥ x.n := .inr (.inl (by simpa using hg18)))|skip
    refine qj_skip (wn2 rfl rfl rfl rfl rfl) rfl rfl ?_
    refine qj_skip (wn2 rfl rfl rfl rfl rfl) rfl rfl ?_
    refine qj_skip (wn2 rfl rfl rfl rfl rfl) rfl rfl ?_
    refine qj_val (wn0 rfl) rfl rfl (y_pick_t rfl rfl) ?_
    refine qj_val (wn0 rfl) rfl rfl (y_move rfl) ?_
    refine qj_skip (wn2 rfl rfl rfl rfl rfl) rfl rfl ?_
    refine qj_skip (wn2 rfl rfl rfl rfl rfl) rfl rfl ?_
    refine qj_skip (wn2 rfl rfl rfl rfl rfl) rfl rfl ?_
    refine qj_skip (wn2 rfl rfl rfl rfl rfl) rfl rfl ?_
    refine qj_skip (wn2 rfl rfl rfl rfl rfl) rfl rfl ?_
    refine qj_skip (wn2 rfl rfl rfl rfl rfl) rfl rfl ?_
    refine qj_skip (wn2 rfl rfl rfl rfl rfl) rfl rfl ?_
    refine qj_val (wn0 rfl) rfl rfl (y_pick_t rfl rfl) ?_
    refine qj_nil ?_
    refine hK2 _ _ _ ?_
    refine cj_env (eL 0 rfl (eL 1 rfl (eL 31 rfl eN))) ?_
    refine cj_cond_t rfl ?_
    refine cj_ret ?_
    refine hret _ _ _ ?_
    apply ej_ret Tryz.results38 .nil _ (ndL b v x D) (by first | exact Hp.le_refl _ | assumption) rfl
    case hp => rw [show receiveN (x, D) m = (true, (x, D)) by unfold receiveN; rw [if_pos f0]]; exact ⟨rfl, v, hv, rfl⟩
    case hS => (repeat (first|exact zR _|(apply zP;focus (repeat (first|exact zH _|apply zT)))|apply zD|exact zA _ _))
   ·first|(have f2 : ¬ m.frm = x.id := by simpa using hg18)|skip
    refine qj_val (wn1 rfl rfl rfl rfl) rfl rfl (y_fieldAddr (k := 1) Tryz.underlying48 rfl (n := 1) (by decide) Tryz.sizeOf3 rfl) ?_
    first | refine qj_val (wn1 rfl rfl rfl rfl) rfl rfl (y_load ⟨Tryz.isAgg3, Tryz.sizeOf3⟩ rfl (by (repeat (first|exact zH _|apply zT));done) rfl) ?_ | refine qj_val (wn1 rfl rfl rfl rfl) rfl rfl (y_load_slc ⟨Tryz.isAgg3, Tryz.sizeOf3⟩ rfl (by (repeat (first|exact zH _|apply zT));done) rfl) ?_
    refine qj_val (wn1 rfl rfl rfl rfl) rfl rfl (y_lss rfl rfl) ?_
    refine qj_val (wn0 rfl) rfl rfl (y_pick_f rfl rfl) ?_
    refine qj_val (wn0 rfl) rfl rfl (y_move rfl) ?_
    refine qj_part 23 rfl (fun hg23 => ?_) (fun hg23 => ?_)
    ·first|(have f0 : ¬ m.to = x.id ∨ m.frm = x.id ∨ m.frm < 0 ∨ m.frm ≥ x.n := .inr (.inr (.inl (by simpa using hg23))))|skip
     refine qj_skip (wn2 rfl rfl rfl rfl rfl) rfl rfl ?_
     refine qj_skip (wn2 rfl rfl rfl rfl rfl) rfl rfl ?_
     refine qj_skip (wn2 rfl rfl rfl rfl rfl) rfl rfl ?_
     refine qj_skip (wn2 rfl rfl rfl rfl rfl) rfl rfl ?_
     refine qj_skip (wn2 rfl rfl rfl rfl rfl) rfl rfl ?_
     refine qj_skip (wn2 rfl rfl rfl rfl rfl) rfl rfl ?_
     refine qj_skip (wn2 rfl rfl rfl rfl rfl) rfl rfl ?_
     refine qj_val (wn0 rfl) rfl rfl (y_pick_t rfl rfl) ?_
     refine qj_nil ?_
     refine hK2 _ _ _ ?_
     refine cj_env (eL 0 rfl (eL 1 rfl (eL 31 rfl eN))) ?_
     refine cj_cond_t rfl ?_
     refine cj_ret ?_
     refine hret _ _ _ ?_
     apply ej_ret Tryz.results38 .nil _ (ndL b v x D) (by first | exact Hp.le_refl _ | assumption) rfl
     case hp => rw [show receiveN (x, D) m = (true, (x, D)) by unfold receiveN; rw [if_pos f0]]; exact ⟨rfl, v, hv, rfl⟩
     case hS => (repeat (first|exact zR _|(apply zP;focus (repeat (first|exact zH _|apply zT)))|apply zD|exact zA _ _))
    ·first|(have f3 : ¬ m.frm < 0 := by simpa using hg23)|skip
     refine qj_val (wn1 rfl rfl rfl rfl) rfl rfl (y_fieldAddr (k := 1) Tryz.underlying48 rfl (n := 1) (by decide) Tryz.sizeOf3 rfl) ?_
     first | refine qj_val (wn1 rfl rfl rfl rfl) rfl rfl (y_load ⟨Tryz.isAgg3, Tryz.sizeOf3⟩ rfl (by (repeat (first|exact zH _|apply zT));done) rfl) ?_ | refine qj_val (wn1 rfl rfl rfl rfl) rfl rfl (y_load_slc ⟨Tryz.isAgg3, Tryz.sizeOf3⟩ rfl (by (repeat (first|exact zH _|apply zT));done) rfl) ?_
     first | refine qj_val (wn1 rfl rfl rfl rfl) rfl rfl (y_load ⟨Tryz.isAgg30, Tryz.sizeOf30⟩ rfl (by (repeat (first|exact zH _|apply zT));done) rfl) ?_ | refine qj_val (wn1 rfl rfl rfl rfl) rfl rfl (y_load_slc ⟨Tryz.isAgg30, Tryz.sizeOf30⟩ rfl (by (repeat (first|exact zH _|apply zT));done) rfl) ?_
     refine qj_val (wn1 rfl rfl rfl rfl) rfl rfl (y_nilCheck rfl) ?_
     refine qj_val (wn1 rfl rfl rfl rfl) rfl rfl (y_fieldAddr (k := 1) Tryz.underlying81 rfl (n := 1) (by decide) Tryz.sizeOf3 rfl) ?_
     first | refine qj_val (wn1 rfl rfl rfl rfl) rfl rfl (y_load ⟨Tryz.isAgg3, Tryz.sizeOf3⟩ rfl (by (repeat (first|exact zH _|apply zT));done) rfl) ?_ | refine qj_val (wn1 rfl rfl rfl rfl) rfl rfl (y_load_slc ⟨Tryz.isAgg3, Tryz.sizeOf3⟩ rfl (by (repeat (first|exact zH _|apply zT));done) rfl) ?_
     refine qj_val (wn1 rfl rfl rfl rfl) rfl rfl (y_geq rfl rfl) ?_
     refine qj_val (wn0 rfl) rfl rfl (y_pick_f rfl rfl) ?_
     refine qj_nil ?_
     refine hK2 _ _ _ ?_
     refine cj_env (eL 0 rfl (eL 1 rfl (eL 31 rfl eN))) ?_
     refine cj_cond rfl (fun hc31 => ?_) (fun hc31 => ?_)
     ·first|(have f0 : ¬ m.to = x.id ∨ m.frm = x.id ∨ m.frm < 0 ∨ m.frm ≥ x.n := .inr (.inr (.inr (by simpa using hc31))))|skip
      refine cj_ret ?_
      refine hret _ _ _ ?_
      apply ej_ret Tryz.results38 .nil _ (ndL b v x D) (by first | exact Hp.le_refl _ | assumption) rfl
      case hp => rw [show receiveN (x, D) m = (true, (x, D)) by unfold receiveN; rw [if_pos f0]]; exact ⟨rfl, v, hv, rfl⟩
      case hS => (repeat (first|exact zR _|(apply zP;focus (repeat (first|exact zH _|apply zT)))|apply zD|exact zA _ _))
     ·have f4 : ¬ m.frm ≥ x.n := by (try simp at hc31); omega
      have f0 : ¬ (¬ m.to = x.id ∨ m.frm = x.id ∨ m.frm < 0 ∨ m.frm ≥ x.n) := by omega
      have hfr : 0 ≤ m.frm ∧ m.frm < x.n := by omega
      refine cj_skip ?_
      refine hK1 _ _ _ ?_
      refine cj_seq (fun K4 hK4 => ?_)
      have hJ4 : ∀ (x9 : ND × NV × DK × Hp), NIn (k + 1) x9.1 ∧ NOk x9.2.2.2 x9.2.1 x9.1 ∧ R.le x9.2.2.2 ∧ receiveN (x, D) m = kindN (x9.1, x9.2.2.1) m ∧ x9.1.n = x.n ∧ x9.2.2.1.ok (n + 44) → EJ ⟨Tryz.prog, 78, σ⟩ K4 [(0, .pointer (some ⟨bM, 0, none⟩)), (1, .pointer (some ⟨bX, 0, none⟩))] x9.2.2.2 (blk bX [.pointer (some ⟨b.x, 0, none⟩)] 30 :: blk bM (msgC m ve) 48 :: ndB b x9.2.1 x9.1 :: lgN b x9.2.1 x9.1 :: dkB b.d x9.2.1.u x9.2.2.1 :: dkS x9.2.1.u x9.2.2.1 :: prA x9.2.1 x9.1 :: mpA x9.2.1.vm x9.1.votes :: outA x9.2.1 x9.1 :: F) := by
       rintro ⟨y, v2, D2, R2⟩ ⟨hy, hv2, hR2, hF, hyn, hD2⟩
       try dsimp only
       dsimp only at hy hv2 hR2 hF hyn hD2
       have hmy : MIn (k + 1) y.n m := hm.to (by rw [hyn]; exact hfr) (by omega)
       have hve2 := hve.mono hR2
       refine hK4 _ _ _ ?_
       refine cj_seq (fun K5 hK5 => ?_)
       refine cj_region ?_
       refine rv0 rfl rfl rfl (y_fieldAddr (k := 0) Tryz.underlying48 rfl (n := 1) (by decide) Tryz.sizeOf3 rfl) ?_
       first | refine rv0 rfl rfl rfl (y_load ⟨Tryz.isAgg3, Tryz.sizeOf3⟩ rfl (by (repeat (first|exact zH _|apply zT));done) rfl) ?_ | refine rv0 rfl rfl rfl (y_load_slc ⟨Tryz.isAgg3, Tryz.sizeOf3⟩ rfl (by (repeat (first|exact zH _|apply zT));done) rfl) ?_
       refine rj_nil ?_
       refine hK5 _ _ _ ?_
       refine cj_block ?_
       refine cj_seq (fun K6 hK6 => ?_)
       refine cj_region ?_
       refine rv0 rfl rfl rfl (y_eql rfl rfl) ?_
       refine rv0 rfl rfl rfl (y_assign rfl) ?_
       refine rj_nil ?_
       refine hK6 _ _ _ ?_
       refine cj_cond rfl (fun hc57 => ?_) (fun hc57 => ?_)
       ·have e0 : m.kind = 0 := by simpa using hc57
        have hK : kindN (y, D2) m = askedN (y, D2) m := by unfold kindN; rw [if_pos e0]
        refine cj_region ?_
        first | refine rv0 rfl rfl rfl (y_load ⟨Tryz.isAgg30, Tryz.sizeOf30⟩ rfl (by (repeat (first|exact zH _|apply zT));done) rfl) ?_ | refine rv0 rfl rfl rfl (y_load_slc ⟨Tryz.isAgg30, Tryz.sizeOf30⟩ rfl (by (repeat (first|exact zH _|apply zT));done) rfl) ?_
        refine rv0 rfl rfl rfl ((y_loads_all (vs := msgC m ve) ⟨Tryz.isAgg48, Tryz.sizeOf48⟩ rfl rfl (by (repeat (first|exact zH _|apply zT));done))) ?_
        refine rj_call (wn0 rfl) rfl Tryz.call41 rfl (asked_t b v2 y D2 m ve (k + 1) (n + 44) (by omega) hy hv2 hmy hve2 hD2 (by omega)) (by (repeat (first|exact zN _|(apply zS;focus (repeat (first|exact zH _|apply zT)))))) (fun ch Rp Lp hRp hpp => ?_) ?_
        · obtain ⟨hG, rfl, v3, hv3, rfl⟩ := hpp
          try simp only [List.cons_append, List.nil_append]
          refine hpan _ _ _ _ ?_
          refine ej_pan _ (ndL b v3 (askedN (y, D2) m).2.1 (askedN (y, D2) m).2.2) (by first | exact Hp.le_refl _ | assumption | exact Hp.le_trans ‹_› ‹_› | exact Hp.le_trans hR2 hRp) rfl (by (repeat (first|exact zR _|(apply zP;focus (repeat (first|exact zH _|apply zT)))|apply zD|exact zA _ _))) ?_
          exact ⟨by rw [hF, hK]; exact hG, rfl, v3, by rw [hF, hK]; exact hv3, by rw [hF, hK]⟩
        rintro r R8 L' hR8 ⟨hG, v3, hv3, rfl⟩
        have hR28 := Hp.le_trans hR2 hR8
        try simp only [List.cons_append, List.nil_append]
        refine rj_nil ?_
        refine hend _ _ _ ?_
        apply ej_end Tryz.results38 .nil _ (ndL b v3 (askedN (y, D2) m).2.1 (askedN (y, D2) m).2.2) (by first | exact Hp.le_refl _ | assumption) rfl
        case hp => rw [hF, hK]; exact ⟨hG, v3, hv3, rfl⟩
        case hS => (repeat (first|exact zR _|(apply zP;focus (repeat (first|exact zH _|apply zT)))|apply zD|exact zA _ _))
       ·have e0 : ¬ m.kind = 0 := by simpa using hc57
        refine cj_seq (fun K8 hK8 => ?_)
        refine cj_region ?_
        refine rv0 rfl rfl rfl (y_eql rfl rfl) ?_
        refine rv0 rfl rfl rfl (y_assign rfl) ?_
        refine rj_nil ?_
        refine hK8 _ _ _ ?_
        refine cj_env (eL 0 rfl (eL 1 rfl (eL 56 rfl (eL 62 rfl eN)))) ?_
        refine cj_cond rfl (fun hc62 => ?_) (fun hc62 => ?_)
        ·have e1 : m.kind = 1 := by simpa using hc62
         have hK : kindN (y, D2) m = votedN (y, D2) m := by unfold kindN; rw [if_neg e0, if_pos e1]
         refine cj_region ?_
         first | refine rv0 rfl rfl rfl (y_load ⟨Tryz.isAgg30, Tryz.sizeOf30⟩ rfl (by (repeat (first|exact zH _|apply zT));done) rfl) ?_ | refine rv0 rfl rfl rfl (y_load_slc ⟨Tryz.isAgg30, Tryz.sizeOf30⟩ rfl (by (repeat (first|exact zH _|apply zT));done) rfl) ?_
         refine rv0 rfl rfl rfl ((y_loads_all (vs := msgC m ve) ⟨Tryz.isAgg48, Tryz.sizeOf48⟩ rfl rfl (by (repeat (first|exact zH _|apply zT));done))) ?_
         refine rj_call (wn0 rfl) rfl Tryz.call42 rfl (voted_t b v2 y D2 m ve (k + 1) (n + 44) (by omega) hy hv2 hmy hve2 hD2 (by omega)) (by (repeat (first|exact zN _|(apply zS;focus (repeat (first|exact zH _|apply zT)))))) (fun ch Rp Lp hRp hpp => ?_) ?_
         · obtain ⟨hG, rfl, v3, hv3, rfl⟩ := hpp
           try simp only [List.cons_append, List.nil_append]
           refine hpan _ _ _ _ ?_
           refine ej_pan _ (ndL b v3 (votedN (y, D2) m).2.1 (votedN (y, D2) m).2.2) (by first | exact Hp.le_refl _ | assumption | exact Hp.le_trans ‹_› ‹_› | exact Hp.le_trans hR2 hRp) rfl (by (repeat (first|exact zR _|(apply zP;focus (repeat (first|exact zH _|apply zT)))|apply zD|exact zA _ _))) ?_
           exact ⟨by rw [hF, hK]; exact hG, rfl, v3, by rw [hF, hK]; exact hv3, by rw [hF, hK]⟩
         rintro r R8 L' hR8 ⟨hG, v3, hv3, rfl⟩
         have hR28 := Hp.le_trans hR2 hR8
         try simp only [List.cons_append, List.nil_append]
         refine rj_nil ?_
         refine hend _ _ _ ?_
         apply ej_end Tryz.results38 .nil _ (ndL b v3 (votedN (y, D2) m).2.1 (votedN (y, D2) m).2.2) (by first | exact Hp.le_refl _ | assumption) rfl
         case hp => rw [hF, hK]; exact ⟨hG, v3, hv3, rfl⟩
         case hS => (repeat (first|exact zR _|(apply zP;focus (repeat (first|exact zH _|apply zT)))|apply zD|exact zA _ _))
        ·have e1 : ¬ m.kind = 1 := by simpa using hc62
         refine cj_seq (fun K10 hK10 => ?_)
         refine cj_seq (fun K11 hK11 => ?_)
         refine cj_region ?_
         refine rv0 rfl rfl rfl (y_eql rfl rfl) ?_
         refine rv0 rfl rfl rfl (y_assign rfl) ?_
         refine rj_nil ?_
         refine hK11 _ _ _ ?_
         refine cj_cond rfl (fun hc67 => ?_) (fun hc67 => ?_)
         ·first|(have e6 : m.kind = 2 := by simpa using hc67)|(have e7 : m.kind = 4 := by simpa using hc67)|skip
          first|(have e2 : m.kind = 2 ∨ m.kind = 4 := .inl (by simpa using hc67))|(have e2 : m.kind = 2 ∨ m.kind = 4 := .inr (by simpa using hc67))|skip
          first|(have hK : kindN (y, D2) m = fedN (y, D2) m := by unfold kindN; rw [if_neg e0, if_neg e1, if_pos e2])|skip
          refine cj_skip ?_
          refine hK10 _ _ _ ?_
          refine cj_cond rfl (fun hc67 => ?_) (fun hc67 => ?_)
          ·first|(have e6 : m.kind = 2 := by simpa using hc67)|(have e7 : m.kind = 4 := by simpa using hc67)|skip
           first|(have e2 : m.kind = 2 ∨ m.kind = 4 := .inl (by simpa using hc67))|(have e2 : m.kind = 2 ∨ m.kind = 4 := .inr (by simpa using hc67))|skip
           first|(have hK : kindN (y, D2) m = fedN (y, D2) m := by unfold kindN; rw [if_neg e0, if_neg e1, if_pos e2])|skip
           refine cj_region ?_
           first | refine rv0 rfl rfl rfl (y_load ⟨Tryz.isAgg30, Tryz.sizeOf30⟩ rfl (by (repeat (first|exact zH _|apply zT));done) rfl) ?_ | refine rv0 rfl rfl rfl (y_load_slc ⟨Tryz.isAgg30, Tryz.sizeOf30⟩ rfl (by (repeat (first|exact zH _|apply zT));done) rfl) ?_
           refine rv0 rfl rfl rfl ((y_loads_all (vs := msgC m ve) ⟨Tryz.isAgg48, Tryz.sizeOf48⟩ rfl rfl (by (repeat (first|exact zH _|apply zT));done))) ?_
           refine rj_call (wn0 rfl) rfl Tryz.call43 rfl (fed_t b v2 y D2 m ve (k + 1) (n + 44) (by omega) hy hv2 hmy hve2 hD2 (by omega)) (by (repeat (first|exact zN _|(apply zS;focus (repeat (first|exact zH _|apply zT)))))) (fun ch Rp Lp hRp hpp => ?_) ?_
           · obtain ⟨hG, rfl, v3, hv3, rfl⟩ := hpp
             try simp only [List.cons_append, List.nil_append]
             refine hpan _ _ _ _ ?_
             refine ej_pan _ (ndL b v3 (fedN (y, D2) m).2.1 (fedN (y, D2) m).2.2) (by first | exact Hp.le_refl _ | assumption | exact Hp.le_trans ‹_› ‹_› | exact Hp.le_trans hR2 hRp) rfl (by (repeat (first|exact zR _|(apply zP;focus (repeat (first|exact zH _|apply zT)))|apply zD|exact zA _ _))) ?_
             exact ⟨by rw [hF, hK]; exact hG, rfl, v3, by rw [hF, hK]; exact hv3, by rw [hF, hK]⟩
           rintro r R8 L' hR8 ⟨hG, v3, hv3, rfl⟩
           have hR28 := Hp.le_trans hR2 hR8
           try simp only [List.cons_append, List.nil_append]
           refine rj_nil ?_
           refine hend _ _ _ ?_
           apply ej_end Tryz.results38 .nil _ (ndL b v3 (fedN (y, D2) m).2.1 (fedN (y, D2) m).2.2) (by first | exact Hp.le_refl _ | assumption) rfl
           case hp => rw [hF, hK]; exact ⟨hG, v3, hv3, rfl⟩
           case hS => (repeat (first|exact zR _|(apply zP;focus (repeat (first|exact zH _|apply zT)))|apply zD|exact zA _ _))
          ·first|(have e3 : ¬ m.kind = 2 := by simpa using hc67)|(have e4 : ¬ m.kind = 4 := by simpa using hc67)|skip
           refine cj_seq (fun K14 hK14 => ?_)
           refine cj_region ?_
           refine rv0 rfl rfl rfl (y_eql rfl rfl) ?_
           refine rv0 rfl rfl rfl (y_assign rfl) ?_
           refine rj_nil ?_
           refine hK14 _ _ _ ?_
           refine cj_env (eL 0 rfl (eL 1 rfl (eL 73 rfl eN))) ?_
           refine cj_cond rfl (fun hc73 => ?_) (fun hc73 => ?_)
           ·have e5 : m.kind = 3 := by simpa using hc73
            have hK : kindN (y, D2) m = heardN (y, D2) m := by unfold kindN; rw [if_neg e0, if_neg e1, if_neg (fun h => by omega), if_pos e5]
            refine cj_region ?_
            first | refine rv0 rfl rfl rfl (y_load ⟨Tryz.isAgg30, Tryz.sizeOf30⟩ rfl (by (repeat (first|exact zH _|apply zT));done) rfl) ?_ | refine rv0 rfl rfl rfl (y_load_slc ⟨Tryz.isAgg30, Tryz.sizeOf30⟩ rfl (by (repeat (first|exact zH _|apply zT));done) rfl) ?_
            refine rv0 rfl rfl rfl ((y_loads_all (vs := msgC m ve) ⟨Tryz.isAgg48, Tryz.sizeOf48⟩ rfl rfl (by (repeat (first|exact zH _|apply zT));done))) ?_
            refine rj_call (wn0 rfl) rfl Tryz.call44 rfl (heard_t b v2 y D2 m ve (k + 1) (by omega) hy hv2 hmy hve2) (by (repeat (first|exact zN _|(apply zS;focus (repeat (first|exact zH _|apply zT)))))) (fun ch Rp Lp hRp hpp => ?_) ?_
            · obtain ⟨hG, rfl, v3, hv3, rfl⟩ := hpp
              try simp only [List.cons_append, List.nil_append]
              refine hpan _ _ _ _ ?_
              refine ej_pan _ (ndL b v3 (heardN (y, D2) m).2.1 (heardN (y, D2) m).2.2) (by first | exact Hp.le_refl _ | assumption | exact Hp.le_trans ‹_› ‹_› | exact Hp.le_trans hR2 hRp) rfl (by (repeat (first|exact zR _|(apply zP;focus (repeat (first|exact zH _|apply zT)))|apply zD|exact zA _ _))) ?_
              exact ⟨by rw [hF, hK]; exact hG, rfl, v3, by rw [hF, hK]; exact hv3, by rw [hF, hK]⟩
            rintro r R8 L' hR8 ⟨hG, v3, hv3, rfl⟩
            have hR28 := Hp.le_trans hR2 hR8
            try simp only [List.cons_append, List.nil_append]
            refine rj_nil ?_
            refine hend _ _ _ ?_
            apply ej_end Tryz.results38 .nil _ (ndL b v3 (heardN (y, D2) m).2.1 (heardN (y, D2) m).2.2) (by first | exact Hp.le_refl _ | assumption) rfl
            case hp => rw [hF, hK]; exact ⟨hG, v3, hv3, rfl⟩
            case hS => (repeat (first|exact zR _|(apply zP;focus (repeat (first|exact zH _|apply zT)))|apply zD|exact zA _ _))
           ·have e5 : ¬ m.kind = 3 := by simpa using hc73
            have hK : kindN (y, D2) m = (true, (y, D2)) := by unfold kindN; rw [if_neg e0, if_neg e1, if_neg (fun h => by omega), if_neg e5]
            refine cj_skip ?_
            refine hend _ _ _ ?_
            apply ej_end Tryz.results38 .nil _ (ndL b v2 y D2) (by first | exact Hp.le_refl _ | assumption) rfl
            case hp => rw [hF, hK]; exact ⟨rfl, v2, hv2, rfl⟩
            case hS => (repeat (first|exact zR _|(apply zP;focus (repeat (first|exact zH _|apply zT)))|apply zD|exact zA _ _))
         ·first|(have e3 : ¬ m.kind = 2 := by simpa using hc67)|(have e4 : ¬ m.kind = 4 := by simpa using hc67)|skip
          refine cj_region ?_
          refine rv0 rfl rfl rfl (y_eql rfl rfl) ?_
          refine rv0 rfl rfl rfl (y_assign rfl) ?_
          refine rj_nil ?_
          refine hK10 _ _ _ ?_
          refine cj_env (eL 0 rfl (eL 1 rfl (eL 56 rfl (eL 67 rfl eN)))) ?_
          refine cj_cond rfl (fun hc67 => ?_) (fun hc67 => ?_)
          ·first|(have e6 : m.kind = 2 := by simpa using hc67)|(have e7 : m.kind = 4 := by simpa using hc67)|skip
           first|(have e2 : m.kind = 2 ∨ m.kind = 4 := .inl (by simpa using hc67))|(have e2 : m.kind = 2 ∨ m.kind = 4 := .inr (by simpa using hc67))|skip
           first|(have hK : kindN (y, D2) m = fedN (y, D2) m := by unfold kindN; rw [if_neg e0, if_neg e1, if_pos e2])|skip
           refine cj_region ?_
           first | refine rv0 rfl rfl rfl (y_load ⟨Tryz.isAgg30, Tryz.sizeOf30⟩ rfl (by (repeat (first|exact zH _|apply zT));done) rfl) ?_ | refine rv0 rfl rfl rfl (y_load_slc ⟨Tryz.isAgg30, Tryz.sizeOf30⟩ rfl (by (repeat (first|exact zH _|apply zT));done) rfl) ?_
           refine rv0 rfl rfl rfl ((y_loads_all (vs := msgC m ve) ⟨Tryz.isAgg48, Tryz.sizeOf48⟩ rfl rfl (by (repeat (first|exact zH _|apply zT));done))) ?_
           refine rj_call (wn0 rfl) rfl Tryz.call43 rfl (fed_t b v2 y D2 m ve (k + 1) (n + 44) (by omega) hy hv2 hmy hve2 hD2 (by omega)) (by (repeat (first|exact zN _|(apply zS;focus (repeat (first|exact zH _|apply zT)))))) (fun ch Rp Lp hRp hpp => ?_) ?_
           · obtain ⟨hG, rfl, v3, hv3, rfl⟩ := hpp
             try simp only [List.cons_append, List.nil_append]
             refine hpan _ _ _ _ ?_
             refine ej_pan _ (ndL b v3 (fedN (y, D2) m).2.1 (fedN (y, D2) m).2.2) (by first | exact Hp.le_refl _ | assumption | exact Hp.le_trans ‹_› ‹_› | exact Hp.le_trans hR2 hRp) rfl (by (repeat (first|exact zR _|(apply zP;focus (repeat (first|exact zH _|apply zT)))|apply zD|exact zA _ _))) ?_
             exact ⟨by rw [hF, hK]; exact hG, rfl, v3, by rw [hF, hK]; exact hv3, by rw [hF, hK]⟩
           rintro r R8 L' hR8 ⟨hG, v3, hv3, rfl⟩
           have hR28 := Hp.le_trans hR2 hR8
           try simp only [List.cons_append, List.nil_append]
           refine rj_nil ?_
           refine hend _ _ _ ?_
           apply ej_end Tryz.results38 .nil _ (ndL b v3 (fedN (y, D2) m).2.1 (fedN (y, D2) m).2.2) (by first | exact Hp.le_refl _ | assumption) rfl
           case hp => rw [hF, hK]; exact ⟨hG, v3, hv3, rfl⟩
           case hS => (repeat (first|exact zR _|(apply zP;focus (repeat (first|exact zH _|apply zT)))|apply zD|exact zA _ _))
          ·first|(have e3 : ¬ m.kind = 2 := by simpa using hc67)|(have e4 : ¬ m.kind = 4 := by simpa using hc67)|skip
           refine cj_seq (fun K17 hK17 => ?_)
           refine cj_region ?_
           refine rv0 rfl rfl rfl (y_eql rfl rfl) ?_
           refine rv0 rfl rfl rfl (y_assign rfl) ?_
           refine rj_nil ?_
           refine hK17 _ _ _ ?_
           refine cj_env (eL 0 rfl (eL 1 rfl (eL 73 rfl eN))) ?_
           refine cj_cond rfl (fun hc73 => ?_) (fun hc73 => ?_)
           ·have e5 : m.kind = 3 := by simpa using hc73
            have hK : kindN (y, D2) m = heardN (y, D2) m := by unfold kindN; rw [if_neg e0, if_neg e1, if_neg (fun h => by omega), if_pos e5]
            refine cj_region ?_
            first | refine rv0 rfl rfl rfl (y_load ⟨Tryz.isAgg30, Tryz.sizeOf30⟩ rfl (by (repeat (first|exact zH _|apply zT));done) rfl) ?_ | refine rv0 rfl rfl rfl (y_load_slc ⟨Tryz.isAgg30, Tryz.sizeOf30⟩ rfl (by (repeat (first|exact zH _|apply zT));done) rfl) ?_
            refine rv0 rfl rfl rfl ((y_loads_all (vs := msgC m ve) ⟨Tryz.isAgg48, Tryz.sizeOf48⟩ rfl rfl (by (repeat (first|exact zH _|apply zT));done))) ?_
            refine rj_call (wn0 rfl) rfl Tryz.call44 rfl (heard_t b v2 y D2 m ve (k + 1) (by omega) hy hv2 hmy hve2) (by (repeat (first|exact zN _|(apply zS;focus (repeat (first|exact zH _|apply zT)))))) (fun ch Rp Lp hRp hpp => ?_) ?_
            · obtain ⟨hG, rfl, v3, hv3, rfl⟩ := hpp
              try simp only [List.cons_append, List.nil_append]
              refine hpan _ _ _ _ ?_
              refine ej_pan _ (ndL b v3 (heardN (y, D2) m).2.1 (heardN (y, D2) m).2.2) (by first | exact Hp.le_refl _ | assumption | exact Hp.le_trans ‹_› ‹_› | exact Hp.le_trans hR2 hRp) rfl (by (repeat (first|exact zR _|(apply zP;focus (repeat (first|exact zH _|apply zT)))|apply zD|exact zA _ _))) ?_
              exact ⟨by rw [hF, hK]; exact hG, rfl, v3, by rw [hF, hK]; exact hv3, by rw [hF, hK]⟩
            rintro r R8 L' hR8 ⟨hG, v3, hv3, rfl⟩
            have hR28 := Hp.le_trans hR2 hR8
            try simp only [List.cons_append, List.nil_append]
            refine rj_nil ?_
            refine hend _ _ _ ?_
            apply ej_end Tryz.results38 .nil _ (ndL b v3 (heardN (y, D2) m).2.1 (heardN (y, D2) m).2.2) (by first | exact Hp.le_refl _ | assumption) rfl
            case hp => rw [hF, hK]; exact ⟨hG, v3, hv3, rfl⟩
            case hS => (repeat (first|exact zR _|(apply zP;focus (repeat (first|exact zH _|apply zT)))|apply zD|exact zA _ _))
           ·have e5 : ¬ m.kind = 3 := by simpa using hc73
            have hK : kindN (y, D2) m = (true, (y, D2)) := by unfold kindN; rw [if_neg e0, if_neg e1, if_neg (fun h => by omega), if_neg e5]
            refine cj_skip ?_
            refine hend _ _ _ ?_
            apply ej_end Tryz.results38 .nil _ (ndL b v2 y D2) (by first | exact Hp.le_refl _ | assumption) rfl
            case hp => rw [hF, hK]; exact ⟨rfl, v2, hv2, rfl⟩
            case hS => (repeat (first|exact zR _|(apply zP;focus (repeat (first|exact zH _|apply zT)))|apply zD|exact zA _ _))
      refine cj_seq (fun K19 hK19 => ?_)
      refine cj_draw (by kernel_rfl) (by kernel_rfl) ?_
      refine qj_val (wn0 rfl) rfl rfl (y_fieldAddr (k := 3) Tryz.underlying48 rfl (n := 1) (by decide) Tryz.sizeOf31 rfl) ?_
      first | refine qj_val (wn0 rfl) rfl rfl (y_load ⟨Tryz.isAgg31, Tryz.sizeOf31⟩ rfl (by (repeat (first|exact zH _|apply zT));done) rfl) ?_ | refine qj_val (wn0 rfl) rfl rfl (y_load_slc ⟨Tryz.isAgg31, Tryz.sizeOf31⟩ rfl (by (repeat (first|exact zH _|apply zT));done) rfl) ?_
      first | refine qj_val (wn0 rfl) rfl rfl (y_load ⟨Tryz.isAgg30, Tryz.sizeOf30⟩ rfl (by (repeat (first|exact zH _|apply zT));done) rfl) ?_ | refine qj_val (wn0 rfl) rfl rfl (y_load_slc ⟨Tryz.isAgg30, Tryz.sizeOf30⟩ rfl (by (repeat (first|exact zH _|apply zT));done) rfl) ?_
      refine qj_val (wn0 rfl) rfl rfl (y_nilCheck rfl) ?_
      refine qj_val (wn0 rfl) rfl rfl (y_fieldAddr (k := 2) Tryz.underlying81 rfl (n := 1) (by decide) Tryz.sizeOf44 rfl) ?_
      first | refine qj_val (wn0 rfl) rfl rfl (y_load ⟨Tryz.isAgg44, Tryz.sizeOf44⟩ rfl (by (repeat (first|exact zH _|apply zT));done) rfl) ?_ | refine qj_val (wn0 rfl) rfl rfl (y_load_slc ⟨Tryz.isAgg44, Tryz.sizeOf44⟩ rfl (by (repeat (first|exact zH _|apply zT));done) rfl) ?_
      refine qj_val (wn0 rfl) rfl rfl (y_call Tryz.call13 rfl (lgTerm_q b.l (some ⟨b.d, 0, none⟩) v.va x.g) (by (repeat (first|exact zN _|(apply zS;focus (repeat (first|exact zH _|apply zT))))))) ?_
      refine qj_val (wn0 rfl) rfl rfl (y_gtr rfl rfl) ?_
      refine qj_nil ?_
      refine hK19 _ _ _ ?_
      refine cj_env (eL 0 rfl (eL 1 rfl (eL 39 rfl eN))) ?_
      refine cj_cond rfl (fun hc39 => ?_) (fun hc39 => ?_)
      ·have f5 : m.term > x.g.term := by (try simp at hc39); omega
       obtain ⟨ra, hra⟩ : ∃ r, r = x.g.setTermD D m.term (-1) := ⟨_, rfl⟩
       have hN : receiveN (x, D) m = bindN (mustN (x, D) ra) fun s => kindN (s.1.newTerm, s.2) m := by unfold receiveN; rw [if_neg f0, if_pos f5, hra]
       refine cj_seq (fun K21 hK21 => ?_)
       refine cj_mixg (L := [blk bX [.pointer (some ⟨b.x, 0, none⟩)] 30, blk bM (msgC m ve) 48, ndB b v x]) [0, 1, 2, 3, 4, 5, 6] [7] [8] _ (by (repeat (first|exact zR _|(apply zP;focus (repeat (first|exact zH _|apply zT)))|apply zD|exact zA _ _))) (by kernel_rfl) (by kernel_rfl) (by kernel_rfl) rfl ?_
       first | refine fj_val rfl rfl rfl (wn0 rfl) (fun R1 hR1 G => (y_load ⟨Tryz.isAgg30, Tryz.sizeOf30⟩ rfl (by (repeat (first|exact zH _|apply zT));done) rfl)) ?_ | refine fj_val rfl rfl rfl (wn0 rfl) (fun R1 hR1 G => (y_load_slc ⟨Tryz.isAgg30, Tryz.sizeOf30⟩ rfl (by (repeat (first|exact zH _|apply zT));done) rfl)) ?_
       first | refine fj_val rfl rfl rfl (wn0 rfl) (fun R1 hR1 G => (y_load ⟨Tryz.isAgg30, Tryz.sizeOf30⟩ rfl (by (repeat (first|exact zH _|apply zT));done) rfl)) ?_ | refine fj_val rfl rfl rfl (wn0 rfl) (fun R1 hR1 G => (y_load_slc ⟨Tryz.isAgg30, Tryz.sizeOf30⟩ rfl (by (repeat (first|exact zH _|apply zT));done) rfl)) ?_
       refine fj_val rfl rfl rfl (wn0 rfl) (fun R1 hR1 G => (y_nilCheck rfl)) ?_
       refine fj_val rfl rfl rfl (wn0 rfl) (fun R1 hR1 G => (y_fieldAddr (k := 2) Tryz.underlying81 rfl (n := 1) (by decide) Tryz.sizeOf44 rfl)) ?_
       first | refine fj_val rfl rfl rfl (wn0 rfl) (fun R1 hR1 G => (y_load ⟨Tryz.isAgg44, Tryz.sizeOf44⟩ rfl (by (repeat (first|exact zH _|apply zT));done) rfl)) ?_ | refine fj_val rfl rfl rfl (wn0 rfl) (fun R1 hR1 G => (y_load_slc ⟨Tryz.isAgg44, Tryz.sizeOf44⟩ rfl (by (repeat (first|exact zH _|apply zT));done) rfl)) ?_
       refine fj_val rfl rfl rfl (wn0 rfl) (fun R1 hR1 G => (y_fieldAddr (k := 3) Tryz.underlying48 rfl (n := 1) (by decide) Tryz.sizeOf31 rfl)) ?_
       first | refine fj_val rfl rfl rfl (wn0 rfl) (fun R1 hR1 G => (y_load ⟨Tryz.isAgg31, Tryz.sizeOf31⟩ rfl (by (repeat (first|exact zH _|apply zT));done) rfl)) ?_ | refine fj_val rfl rfl rfl (wn0 rfl) (fun R1 hR1 G => (y_load_slc ⟨Tryz.isAgg31, Tryz.sizeOf31⟩ rfl (by (repeat (first|exact zH _|apply zT));done) rfl)) ?_
       refine fj_nil ?_
       refine xj_rj rfl ?_
       try simp only [List.cons_append, List.nil_append, List.append_nil]
       refine rj_call (wn0 rfl) rfl Tryz.call40 rfl (lgSetTerm_t b.l b.d v.va v.u x.g D n m.term (-1) hg (by unfold u64B; omega) (by omega) (by omega) hv.va.one hD (by omega)) (by (repeat (first|exact zN _|(apply zS;focus (repeat (first|exact zH _|apply zT)))))) (fun _ _ _ _ h => h.elim) ?_
       rintro r R4 L' hR4 ⟨rfl, u2, rfl⟩
       rw [← hra]
       have hall : ra.2.1.all = x.g.all := by rw [hra]; exact setD_all
       have hDk : ra.2.2.ok (n + 44) := by rw [hra]; exact setD_dk hD (by unfold u64B; omega) (by omega)
       try simp only [List.cons_append, List.nil_append]
       refine rj_xk (by (first | exact Hp.le_refl _ | assumption | exact Hp.le_trans ‹_› ‹_›)) (by (repeat (first|exact zR _|(apply zP;focus (repeat (first|exact zH _|apply zT)))|apply zD|exact zA _ _))) ?_
       refine xj_nil ?_
       try simp only [List.cons_append, List.nil_append, List.append_nil]
       refine rj_call (wn0 rfl) rfl Tryz.call39 rfl (must_t b (v.logd u2 v.va) x _) (by (repeat (first|exact zN _|(apply zS;focus (repeat (first|exact zH _|apply zT)))))) (fun ch Rp Lp hRp hpp => ?_) ?_
       · obtain ⟨he1, rfl, rfl⟩ := hpp
         try simp only [List.cons_append, List.nil_append]
         refine hpan _ _ _ _ ?_
         refine ej_pan _ (ndL b (v.logd u2 v.va) { x with g := ra.2.1, down := true } ra.2.2) (by first | exact Hp.le_refl _ | assumption | exact Hp.le_trans ‹_› ‹_› | exact Hp.le_trans hR4 hRp) rfl (by (repeat (first|exact zR _|(apply zP;focus (repeat (first|exact zH _|apply zT)))|apply zD|exact zA _ _))) ?_
         exact ⟨by rw [hN]; simp [bindN, mustN, he1], rfl, v.logd u2 v.va, by rw [hN]; simp only [bindN, mustN, if_neg he1]; exact hv.logd (y := { x with g := ra.2.1, down := true }) (Hp.le_trans hR4 hRp) ⟨rfl, rfl⟩ (by show FrX entE Rp ra.2.1.all v.va; rw [hall]; exact hv.va.mono (Hp.le_trans hR4 hRp)), by rw [hN]; simp [bindN, mustN, he1]⟩
       rintro r R5 L' hR5 ⟨he0, rfl⟩
       have hx1 : NIn (k + 1) (ND.newTerm { x with g := ra.2.1 }) := by rw [hra, setD_ok (by rw [← hra]; exact he0)]; exact (hx.set (t := m.term) (vt := -1) (by omega) (by omega)).newTerm
       have hR45 := Hp.le_trans hR4 hR5
       have hv1 : NOk R5 (v.logd u2 v.va) (ND.newTerm { x with g := ra.2.1 }) := NOk.newTerm (hv.logd (y := { x with g := ra.2.1 }) hR45 ⟨rfl, rfl⟩ (by show FrX entE R5 ra.2.1.all v.va; rw [hall]; exact hv.va.mono hR45))
       try simp only [List.cons_append, List.nil_append]
       refine rj_nil ?_
       refine hK21 _ _ _ ?_
       refine cj_env (eL 0 rfl (eL 1 rfl eN)) ?_
       refine cj_region ?_
       first | refine rv0 rfl rfl rfl (y_load ⟨Tryz.isAgg30, Tryz.sizeOf30⟩ rfl (by (repeat (first|exact zH _|apply zT));done) rfl) ?_ | refine rv0 rfl rfl rfl (y_load_slc ⟨Tryz.isAgg30, Tryz.sizeOf30⟩ rfl (by (repeat (first|exact zH _|apply zT));done) rfl) ?_
       first | refine rv0 rfl rfl rfl (y_load ⟨Tryz.isAgg30, Tryz.sizeOf30⟩ rfl (by (repeat (first|exact zH _|apply zT));done) rfl) ?_ | refine rv0 rfl rfl rfl (y_load_slc ⟨Tryz.isAgg30, Tryz.sizeOf30⟩ rfl (by (repeat (first|exact zH _|apply zT));done) rfl) ?_
       refine rv0 rfl rfl rfl (y_nilCheck rfl) ?_
       refine rv0 rfl rfl rfl (y_fieldAddr (k := 3) Tryz.underlying81 rfl (n := 1) (by decide) Tryz.sizeOf3 rfl) ?_
       refine rj_store ⟨Tryz.isAgg3, Tryz.sizeOf3⟩ (wn0 rfl) rfl rfl (by (first | rfl | assumption | (apply cutV_one; assumption))) (by (repeat (first|exact zH _|apply zT));done) rfl rfl ?_
       refine rv0 rfl rfl rfl (y_nilCheck rfl) ?_
       refine rv0 rfl rfl rfl (y_fieldAddr (k := 4) Tryz.underlying81 rfl (n := 1) (by decide) Tryz.sizeOf3 rfl) ?_
       refine rj_store ⟨Tryz.isAgg3, Tryz.sizeOf3⟩ (wn0 rfl) rfl rfl (by (first | rfl | assumption | (apply cutV_one; assumption))) (by (repeat (first|exact zH _|apply zT));done) rfl rfl ?_
       refine rj_nil ?_
       refine ej_join hJ4 ((ND.newTerm { x with g := ra.2.1 }, v.logd u2 v.va, ra.2.2, R5)) (⟨hx1, hv1, hR45, by rw [hN]; simp [bindN, mustN, he0], rfl, hDk⟩) (eC rfl (eC rfl eN)) rfl (by (repeat (first|exact zR _|(apply zP;focus (repeat (first|exact zH _|apply zT)))|apply zD|exact zA _ _)))
      ·have f5 : ¬ m.term > x.g.term := by (try simp at hc39); omega
       have hN : receiveN (x, D) m = kindN (x, D) m := by unfold receiveN; rw [if_neg f0, if_neg f5]
       refine cj_skip ?_
       refine ej_join hJ4 ((x, v, D, R)) (⟨hx.le (by omega), hv, Hp.le_refl _, hN, rfl, DK.ok_le hD (by omega)⟩) (eC rfl (eC rfl eN)) rfl (by (repeat (first|exact zR _|(apply zP;focus (repeat (first|exact zH _|apply zT)))|apply zD|exact zA _ _)))
theorem propose1_t {R : Hp} (b : NB) (v : NV) (x : ND) (D : DK) (cmd : Bs) (k n bX bC : Nat) (hk : k ≤ 40) (hx : NIn k x) (hv : NOk R v x) (hr : x.role = 2) (hc : cmd.length ≤ 100) (hD : D.ok n) (hn : n ≤ 700000000) :
    Tri Tryz.prog 52 [.pointer (some ⟨bX, 0, none⟩), .pointer (some ⟨bC, 0, none⟩)] R (blk bX [.pointer (some ⟨b.x, 0, none⟩)] 30 :: blk bC [.string (str cmd)] 9 :: ndL b v x D) (fun r R' L' => (entryN (x, D) cmd).1 = true ∧ ∃ v', NOk R' v' (entryN (x, D) cmd).2.1 ∧ L' = ndL b v' (entryN (x, D) cmd).2.1 (entryN (x, D) cmd).2.2 ++ [blk bX [.pointer (some ⟨b.x, 0, none⟩)] 30, blk bC [.string (str cmd)] 9]) (fun ch R' L' => (entryN (x, D) cmd).1 = false ∧ ch = [lostE] ∧ ∃ v', NOk R' v' (entryN (x, D) cmd).2.1 ∧ L' = ndL b v' (entryN (x, D) cmd).2.1 (entryN (x, D) cmd).2.2 ++ [blk bX [.pointer (some ⟨b.x, 0, none⟩)] 30, blk bC [.string (str cmd)] 9]) := by
  refine tri_of Tryz.func52 rfl Tryz.ntmps52 rfl (fun σ F Q hret hend hpan => ?_)
  try simp only [List.cons_append, List.nil_append]
  refine cj_env (eL 0 rfl (eL 1 rfl eN)) ?_
  refine cj_region ?_
  first | refine rv0 rfl rfl rfl (y_load ⟨Tryz.isAgg30, Tryz.sizeOf30⟩ rfl (by (repeat (first|exact zH _|apply zT));done) rfl) ?_ | refine rv0 rfl rfl rfl (y_load_slc ⟨Tryz.isAgg30, Tryz.sizeOf30⟩ rfl (by (repeat (first|exact zH _|apply zT));done) rfl) ?_
  first | refine rv0 rfl rfl rfl (y_load ⟨Tryz.isAgg9, Tryz.sizeOf9⟩ rfl (by (repeat (first|exact zH _|apply zT));done) rfl) ?_ | refine rv0 rfl rfl rfl (y_load_slc ⟨Tryz.isAgg9, Tryz.sizeOf9⟩ rfl (by (repeat (first|exact zH _|apply zT));done) rfl) ?_
  refine rj_call (wn0 rfl) rfl Tryz.call53 rfl (entry_t b v x D cmd k n (by omega) hx hv (hx.peers hr) hc hD (by omega)) (by (repeat (first|exact zN _|(apply zS;focus (repeat (first|exact zH _|apply zT)))))) (fun ch Rp Lp hRp hpp => ?_) ?_
  · obtain ⟨hF, rfl, v2, hv2, rfl⟩ := hpp
    try simp only [List.cons_append, List.nil_append]
    refine hpan _ _ _ _ ?_
    refine ej_pan _ (ndL b v2 (entryN (x, D) cmd).2.1 (entryN (x, D) cmd).2.2 ++ [blk bX [.pointer (some ⟨b.x, 0, none⟩)] 30, blk bC [.string (str cmd)] 9]) (by first | exact Hp.le_refl _ | assumption | exact Hp.le_trans ‹_› ‹_›) rfl (by (repeat (first|exact zR _|(apply zP;focus (repeat (first|exact zH _|apply zT)))|apply zD|exact zA _ _))) ?_
    exact ⟨hF, rfl, v2, hv2, rfl⟩
  rintro r R8 L' hR8 ⟨hF, v2, hv2, rfl⟩
  try simp only [List.cons_append, List.nil_append]
  refine rj_nil ?_
  refine hend _ _ _ ?_
  apply ej_end Tryz.results52 .nil _ (ndL b v2 (entryN (x, D) cmd).2.1 (entryN (x, D) cmd).2.2 ++ [blk bX [.pointer (some ⟨b.x, 0, none⟩)] 30, blk bC [.string (str cmd)] 9]) hR8 rfl
  case hp => exact ⟨hF, v2, hv2, rfl⟩
  case hS => (repeat (first|exact zR _|(apply zP;focus (repeat (first|exact zH _|apply zT)))|apply zD|exact zA _ _))
end V
end Go.Proofs.YtjdbigplednihaaGreat
set_option linter.unusedSimpArgs false
set_option linter.unusedVariables false
set_option maxRecDepth 100000
namespace Go.Proofs.YtjdbigplednihaaGreat
open Go.RowKit
namespace V
set_option maxHeartbeats 4000000
section
variable {c : Cx} {E : Env} {R : Hp} {L : List Asn} {ty : TypeId} {p : String} {af : Array Edge} {g : Option (Nat × Bool)}
theorem y_ineq_nil {d : Option Tmp} {x y : Operand} {t t' u : TypeId} {v : Value} {ms : Array (String × TypeId)} (hT : c.P.underlying t = some (.interface ms)) (e1 : ev E x = some (.iface u v)) (e2 : ev E y = some .nilIface) :
    Yld c E R L ⟨d, .binOp .neq t x y t', ty, p, af, g⟩ (.bool true) := fun a w hf _ => by
  have h : ∀ d : Nat, (Op.equalIn (d + 1) t (.iface u v) .nilIface).run c.P w = .ok false w := fun d => by simp [Op.equalIn, run_underlying hT]
  have h1 : (Op.equalIn Op.maxDepth t (.iface u v) .nilIface).run c.P w = .ok false w := h (Op.maxDepth - 1)
  simp [execOp, hf.ev e1, hf.ev e2, eqGuard, binOp, Op.equal, h1, Oper.quietUpon]
theorem y_ineq_nil0 {d : Option Tmp} {x : Operand} {t t' : TypeId} {ms : Array (String × TypeId)} (hT : c.P.underlying t = some (.interface ms)) (e1 : ev E x = some .nilIface) :
    Yld c E R L ⟨d, .binOp .neq t x (.const .nilIface) t', ty, p, af, g⟩ (.bool false) := fun a w hf _ => by
  have h : ∀ d : Nat, (Op.equalIn (d + 1) t .nilIface .nilIface).run c.P w = .ok true w := fun d => by simp [Op.equalIn, run_underlying hT]
  have h1 : (Op.equalIn Op.maxDepth t .nilIface .nilIface).run c.P w = .ok true w := h (Op.maxDepth - 1)
  simp [execOp, hf.ev e1, hf.ev (x := .const .nilIface) rfl, eqGuard, binOp, Op.equal, h1, Oper.quietUpon]
theorem y_tassert {d : Option Tmp} {x : Operand} {t u : TypeId} {b : Bool} {v r : Value} (hr : ∀ w, (Instr.typeAssert v t u b).run c.P w = .ok r w) (e1 : ev E x = some v) :
    Yld c E R L ⟨d, .typeAssert x t u b, ty, p, af, g⟩ r := fun a w hf _ => by
  simp [execOp, hf.ev e1, hr w, Oper.quietUpon]
theorem cj_wp {x : Code} {Q : Exit → Act → World → Prop} {a : Act} {w : World} (h : CJ c x Q E R L) (hf : Fr c.n E a) (hs : Sat c.σ R L w) : x.wp c.P Q a w := h a w hf hs
end
theorem lost_yes {σ : World} {R : Hp} {L : List Asn} {w : World} (b4 : Nat) {v0 : Value} (hs : Sat σ R (blk b4 [v0] 28 :: L) w) :
    CallsD Tryz.prog 61 ⟨[.pointer (some ⟨b4, 0, none⟩)]⟩ (.panicking [lostE]) w
      (fun e u' w' => (∃ v, e = .returned v) ∧ settle u' = .returning ∧ Sat σ R (blk b4 [.slice none 0 0] 28 :: L) w') := by
  refine callsD_of_wpS Tryz.func61 rfl (fun c0 cs hu => ?_)
  rw [show Tryz.f61.ntmps = 15 from rfl]
  have hf0 := Fr.start (n := 15) (args := [.pointer (some ⟨b4, 0, none⟩)]) rfl
  generalize ({ tmps := _, defers := [] } : Act) = a at hf0 ⊢
  have hrec : recOf (c0 :: cs) = (.iface 113 (.agg ⟨[]⟩), { c0 with mode := .panicking [⟨.iface 113 (.agg ⟨[]⟩), true, false⟩] } :: cs) := by
    simp only [recOf, recoverD, hu, lostE]
  refine wpS_rec hf0 rfl rfl hrec (fun a1 hf1 => ?_)
  clear hf0
  refine wpS_of_wp ?_
  refine cj_wp (c := ⟨Tryz.prog, 15, σ⟩) ?_ hf1 hs
  refine cj_seq (fun K1 hK1 => ?_)
  refine cj_region ?_
  refine rv0 rfl rfl rfl (y_move rfl) ?_
  refine rv0 rfl rfl rfl ((y_ineq_nil Tryz.underlying20 rfl rfl)) ?_
  refine rj_nil ?_
  refine hK1 _ _ _ ?_
  refine cj_cond_t rfl ?_
  refine cj_seq (fun K2 hK2 => ?_)
  refine cj_seq (fun K3 hK3 => ?_)
  refine cj_region ?_
  refine rv0 rfl rfl rfl (y_move rfl) ?_
  refine rv0 rfl rfl rfl ((y_tassert (r := .tuple ⟨[.agg ⟨[]⟩, .bool true]⟩) (fun w => by kernel_rfl) rfl)) ?_
  refine rv0 rfl rfl rfl (y_move rfl) ?_
  refine rv0 rfl rfl rfl (y_extract rfl rfl) ?_
  refine rv0 rfl rfl rfl (y_extract rfl rfl) ?_
  refine rj_alloc (wn0 rfl) rfl Tryz.zeroValue113 rfl (fun b2 => ?_)
  refine rj_stores_all (vs := []) ⟨Tryz.isAgg113, Tryz.sizeOf113⟩ rfl (wn0 rfl) rfl rfl (by simp) (by (repeat (first|exact zH _|apply zT));done) rfl ?_
  refine rv0 rfl rfl rfl (y_assign rfl) ?_
  refine rj_nil ?_
  refine hK3 _ _ _ ?_
  refine cj_env (eL 0 rfl (eL 1 rfl (eL 3 rfl eN))) ?_
  refine cj_seq (fun K4 hK4 => ?_)
  refine cj_region ?_
  refine rv0 rfl rfl rfl (y_move rfl) ?_
  refine rv0 rfl rfl rfl (y_not rfl) ?_
  refine rj_nil ?_
  refine hK4 _ _ _ ?_
  refine cj_cond_f rfl ?_
  refine cj_skip ?_
  refine hK2 _ _ _ ?_
  refine cj_env (eL 0 rfl eN) ?_
  refine cj_region ?_
  refine rj_store ⟨Tryz.isAgg28, Tryz.sizeOf28⟩ (wn0 rfl) rfl rfl (by (first | rfl | assumption | (apply cutV_one; assumption))) (by (repeat (first|exact zH _|apply zT));done) rfl rfl ?_
  refine rj_nil ?_
  exact fun a w hf hs => ⟨hf.dfs, _, rfl, .tuple ⟨[]⟩, by unfold results; rw [Tryz.results61]; simp, ⟨_, rfl⟩, rfl, hs.sub (by (repeat (first|exact zR _|(apply zP;focus (repeat (first|exact zH _|apply zT)))|apply zD|exact zA _ _)))⟩
theorem lost_no {σ : World} {R : Hp} {L : List Asn} {w : World} (b4 : Nat) (hs : Sat σ R L w) :
    CallsD Tryz.prog 61 ⟨[.pointer (some ⟨b4, 0, none⟩)]⟩ .returning w
      (fun e u' w' => (∃ v, e = .returned v) ∧ settle u' = .returning ∧ Sat σ R L w') := by
  refine callsD_of_wpS Tryz.func61 rfl (fun c0 cs hu => ?_)
  rw [show Tryz.f61.ntmps = 15 from rfl]
  have hf0 := Fr.start (n := 15) (args := [.pointer (some ⟨b4, 0, none⟩)]) rfl
  generalize ({ tmps := _, defers := [] } : Act) = a at hf0 ⊢
  have hrec : recOf (c0 :: cs) = (.nilIface, c0 :: cs) := by
    simp only [recOf, recoverD, hu]
  have hc0 : c0 = { c0 with mode := .returning } := by rw [← hu]
  refine wpS_rec hf0 rfl rfl hrec (fun a1 hf1 => ?_)
  clear hf0
  refine wpS_of_wp ?_
  refine cj_wp (c := ⟨Tryz.prog, 15, σ⟩) ?_ hf1 hs
  refine cj_seq (fun K1 hK1 => ?_)
  refine cj_region ?_
  refine rv0 rfl rfl rfl (y_move rfl) ?_
  refine rv0 rfl rfl rfl ((y_ineq_nil0 Tryz.underlying20 rfl)) ?_
  refine rj_nil ?_
  refine hK1 _ _ _ ?_
  refine cj_cond_f rfl ?_
  refine cj_skip ?_
  exact fun a w hf hs => ⟨hf.dfs, .returning, by rw [← hc0], .tuple ⟨[]⟩, by unfold results; rw [Tryz.results61]; simp, ⟨_, rfl⟩, rfl, hs.sub (by (repeat (first|exact zR _|(apply zP;focus (repeat (first|exact zH _|apply zT)))|apply zD|exact zA _ _)))⟩
theorem run_no {n : Nat} {σ : World} {fn : Func} {R R0 : Hp} {F L' : List Asn} {E : Env} {post : Value → Hp → List Asn → Prop} (b4 : Nat) (v : Value) {a : Act} {w : World} (hr : fn.results = ⟨[.cell 4 28]⟩) (hR : R0.le R)
    (e4 : lk E 4 = some (.pointer (some ⟨b4, 0, none⟩))) (hf : Fr n E a) (hs : Sat σ R (blk b4 [v] 28 :: (L' ++ F)) w) (hp : post v R L') :
    tailQ Tryz.prog fn (EndR σ R0 F post (fun _ _ _ => False)) { target := .fn (.func 61) ⟨[.pointer (some ⟨b4, 0, none⟩)]⟩, args := #[] } .normal a w :=
  ⟨hf.dfs, leaves_onec (by simp) Tryz.call61 (lost_no b4 hs) (fun w' hs' => leaves_ret (c := ⟨Tryz.prog, n, σ⟩) hr (.cons (rv_cell ⟨Tryz.isAgg28, Tryz.sizeOf28⟩ e4 (.head _) rfl) .nil) R L' hR rfl (.drop (.refl _)) hp hf hs')⟩
theorem run_yes {n : Nat} {σ : World} {fn : Func} {R R0 : Hp} {F L' : List Asn} {E : Env} {post : Value → Hp → List Asn → Prop} (b4 : Nat) {v0 : Value} {a : Act} {w : World} (hr : fn.results = ⟨[.cell 4 28]⟩) (hR : R0.le R)
    (e4 : lk E 4 = some (.pointer (some ⟨b4, 0, none⟩))) (hf : Fr n E a) (hs : Sat σ R (blk b4 [v0] 28 :: (L' ++ F)) w) (hp : post (.slice none 0 0) R L') :
    tailQ Tryz.prog fn (EndR σ R0 F post (fun _ _ _ => False)) { target := .fn (.func 61) ⟨[.pointer (some ⟨b4, 0, none⟩)]⟩, args := #[] } (.panic [lostE]) a w :=
  ⟨hf.dfs, leaves_onec (by simp) Tryz.call61 (lost_yes b4 hs) (fun w' hs' => leaves_ret (c := ⟨Tryz.prog, n, σ⟩) hr (.cons (rv_cell ⟨Tryz.isAgg28, Tryz.sizeOf28⟩ e4 (.head _) rfl) .nil) R L' hR rfl (.drop (.refl _)) hp hf hs')⟩
theorem ej_rj {c : Cx} {ops : Array Oper} {Q Q2 : Exit → Act → World → Prop} {l : List Oper} {E : Env} {R : Hp} {L : List Asn} (h : RJ c ops Q l E R L) : EJ c (Exit.then (fun a w => wpList c.P ops Q l a w) Q2 .normal) E R L := h
theorem split_skip (A : Asn) (L F : List Asn) : Split (A :: (L ++ F)) L (A :: F) := by
  induction L with
  | nil => exact .nil _
  | cons B L ih => exact .cons (.tail (.head _)) ih
def runR (x : ND) (D : DK) (F : Bool × NS) : List Msg × NS := if downS (x, D) = true then ([], (x, D)) else if F.1 = true then (F.2.1.out, F.2) else ([], F.2)
theorem runN_eq (x : ND) (D : DK) (f : NS → Bool × NS) : runN (x, D) f = runR x D (f ({ x with out := [] }, D)) := rfl
@[reducible] def NDone (b : NB) (G : List Msg × NS) (r : Value) (R' : Hp) (L' : List Asn) : Prop := ∃ v', FrX msgE R' G.1 r ∧ NOk R' v' G.2.1 ∧ L' = ndI b v' G.2.1 G.2.2
theorem sub_pre (L : List Asn) {M N : List Asn} (h : Sub M N) : Sub (L ++ M) (L ++ N) := by
  induction L with
  | nil => exact h
  | cons A L ih => exact zP (.head _) ih
theorem sub_mid (A : Asn) (L F : List Asn) : Sub (L ++ A :: F) (A :: (L ++ F)) := zP (Find.mid A L F) (.refl _)
theorem rj_subA {c : Cx} {ops : Array Oper} {Q : Exit → Act → World → Prop} {l : List Oper} {E : Env} {R : Hp} {L M : List Asn} (hs : Sub L M) (h : RJ c ops Q l E R M) : RJ c ops Q l E R L := fun a w hf s => h a w hf (s.sub hs)
theorem run_t {R : Hp} (b : NB) (v : NV) (x : ND) (D : DK) (fk : FuncId) (caps : List Value) (Ex Ey : List Asn) (F0 : Bool × NS) (hc : ∀ args w, (callFunc fk args).run Tryz.prog w = .ok (.enter fk args) w) (hv : NOk R v x)
    (hf : ∀ v2, NOk R v2 { x with out := [] } → Tri Tryz.prog fk caps R (ndL b v2 { x with out := [] } D ++ Ex) (fun r R' L' => F0.1 = true ∧ ∃ v', NOk R' v' F0.2.1 ∧ L' = ndL b v' F0.2.1 F0.2.2 ++ Ey) (fun ch R' L' => F0.1 = false ∧ ch = [lostE] ∧ ∃ v', NOk R' v' F0.2.1 ∧ L' = ndL b v' F0.2.1 F0.2.2 ++ Ey)) (hE : ∀ F, Sub (Ex ++ F) (Ey ++ F)) :
    Tri Tryz.prog 32 [.pointer (some ⟨b.x, 0, none⟩), .func (.func fk) ⟨[]⟩ ⟨caps⟩] R (ndI b v x D ++ Ex) (fun r R' L' => ∃ v', FrX msgE R' (runR x D F0).1 r ∧ NOk R' v' (runR x D F0).2.1 ∧ L' = ndI b v' (runR x D F0).2.1 (runR x D F0).2.2 ++ Ey) := by
  have hvN : NOk R (v.sent (.slice none 0 0) []) { x with out := [] } := ⟨hv.va, Els.nil, hv.vm, hv.vp, rfl, hv.map⟩
  refine tri_of_d Tryz.func32 rfl Tryz.ntmps32 rfl (fun σ F Q hret hend hpan hQ => ?_)
  try simp only [List.cons_append, List.nil_append]
  refine cj_env (eL 0 rfl (eL 1 rfl eN)) ?_
  refine cj_seq (fun K1 hK1 => ?_)
  refine cj_region ?_
  refine rj_alloc (wn0 rfl) rfl Tryz.zeroValue28 rfl (fun b4 => ?_)
  refine rj_nil ?_
  refine hK1 _ _ _ ?_
  refine cj_seq (fun K2 hK2 => ?_)
  refine cj_seq (fun K3 hK3 => ?_)
  refine cj_region ?_
  refine rv0 rfl rfl rfl (y_move rfl) ?_
  refine rv0 rfl rfl rfl (y_call Tryz.call26 rfl (ndDown_q b v x D) (by (repeat (first|exact zN _|(apply zS;focus (repeat (first|exact zH _|apply zT))))))) ?_
  refine rj_nil ?_
  refine hK3 _ _ _ ?_
  refine cj_cond rfl (fun hc6 => ?_) (fun hc6 => ?_)
  ·have f1 : downS (x, D) = true := hc6
   have hG : runR x D F0 = ([], (x, D)) := by unfold runR; rw [if_pos f1]
   refine cj_seq (fun K5 hK5 => ?_)
   refine cj_sub (M := blk b4 [.slice none 0 0] 28 :: (ndI b v x D ++ (Ey ++ F))) (zP (by (repeat (first|exact zH _|apply zT));done) (sub_pre (ndI b v x D) (hE F))) ?_
   try simp only [List.cons_append, List.nil_append]
   refine cj_region ?_
   refine rj_store ⟨Tryz.isAgg28, Tryz.sizeOf28⟩ (wn0 rfl) rfl rfl (by (first | rfl | assumption | (apply cutV_one; assumption))) (by (repeat (first|exact zH _|apply zT));done) rfl rfl ?_
   refine rj_nil ?_
   refine hK5 _ _ _ ?_
   refine cj_env (eL 4 rfl eN) ?_
   refine cj_ret ?_
   refine hret _ _ _ ?_
   apply ej_ret Tryz.results32 (.cons (rv_cell ⟨Tryz.isAgg28, Tryz.sizeOf28⟩ rfl (by (repeat (first|exact zH _|apply zT));done) rfl) .nil) _ (ndI b v x D ++ Ey) (Hp.le_refl _) rfl
   case hp => rw [hG]; exact ⟨v, FrX.nil, hv, rfl⟩
   case hS => (repeat (first|exact zR _|(apply zP;focus (repeat (first|exact zH _|apply zT)))|apply zD|exact zA _ _))
  ·have f1 : ¬ downS (x, D) = true := by simpa using hc6
   refine cj_skip ?_
   refine hK2 _ _ _ ?_
   refine cj_seq (fun K6 hK6 => ?_)
   refine cj_region ?_
   refine rv0 rfl rfl rfl (y_move rfl) ?_
   refine rv0 rfl rfl rfl (y_nilCheck rfl) ?_
   refine rv0 rfl rfl rfl (y_fieldAddr (k := 9) Tryz.underlying81 rfl (n := 1) (by decide) Tryz.sizeOf28 rfl) ?_
   refine rj_store ⟨Tryz.isAgg28, Tryz.sizeOf28⟩ (wn0 rfl) rfl rfl (by (first | rfl | assumption | (apply cutV_one; assumption))) (by (repeat (first|exact zH _|apply zT));done) rfl rfl ?_
   refine rj_nil ?_
   refine hK6 _ _ _ ?_
   refine cj_env (eL 0 rfl (eL 1 rfl (eL 4 rfl eN))) ?_
   refine cj_add (A := outA (v.sent (.slice none 0 0) []) { x with out := [] }) (slc_nil _ _) ?_
   refine cj_defer2 hQ rfl rfl ?_
   refine rv0 rfl rfl rfl (y_move rfl) ?_
   refine rj_callf (wn0 rfl) rfl rfl hc rfl (hf (v.sent (.slice none 0 0) []) hvN) (pre := ndL b (v.sent (.slice none 0 0) []) { x with out := [] } D ++ Ex) (F := blk b4 [.slice none 0 0] 28 :: F) ?_ ?_ ?_
   · exact .cons (by (repeat (first|exact zH _|apply zT));done) (.cons (by (repeat (first|exact zH _|apply zT));done) (.cons (by (repeat (first|exact zH _|apply zT));done) (.cons (by (repeat (first|exact zH _|apply zT));done) (.cons (by (repeat (first|exact zH _|apply zT));done) (.cons (by (repeat (first|exact zH _|apply zT));done) (.cons (by (repeat (first|exact zH _|apply zT));done) (split_skip _ _ _)))))))
   · rintro ch Rp Lp hRp ⟨hF1, rfl, v2, hv2, rfl⟩
     have hG : runR x D F0 = ([], F0.2) := by unfold runR; rw [if_neg f1, if_neg (by rw [hF1]; simp)]
     intro a w hf hs
     replace hs := hs.sub (sub_mid _ _ _)
     refine run_yes b4 Tryz.results32 hRp rfl hf (L' := ndI b v2 F0.2.1 F0.2.2 ++ Ey) (hs.sub (by (repeat (first|exact zR _|(apply zP;focus (repeat (first|exact zH _|apply zT)))|apply zD|exact zA _ _)))) ?_
     rw [hG]; exact ⟨v2, FrX.nil, hv2, rfl⟩
   · rintro r R' L' hR' ⟨hF1, v2, hv2, rfl⟩
     have hG : runR x D F0 = (F0.2.1.out, F0.2) := by unfold runR; rw [if_neg f1, if_pos hF1]
     refine rj_subA (sub_mid _ _ _) ?_
     try simp only [List.cons_append, List.nil_append]
     refine rj_nil ?_
     refine ej_rj ?_
     refine rv0 rfl rfl rfl (y_move rfl) ?_
     refine rv0 rfl rfl rfl (y_nilCheck rfl) ?_
     refine rv0 rfl rfl rfl (y_fieldAddr (k := 9) Tryz.underlying81 rfl (n := 1) (by decide) Tryz.sizeOf28 rfl) ?_
     refine rv0 rfl rfl rfl (y_load ⟨Tryz.isAgg28, Tryz.sizeOf28⟩ rfl (by (repeat (first|exact zH _|apply zT));done) rfl) ?_
     refine rj_store ⟨Tryz.isAgg28, Tryz.sizeOf28⟩ (wn0 rfl) rfl rfl hv2.vo (by (repeat (first|exact zH _|apply zT));done) rfl rfl ?_
     refine rj_freeze (e := 48) (sz := 10) (n := F0.2.1.out.length) (v := v2.vo) (xs := v2.css.flatten) (by (repeat (first|exact zH _|apply zT));done) (fun R9 hR9 hfr hxl => ?_)
     have hfx : FrX msgE R9 F0.2.1.out v2.vo := FrozenS.frx hfr (hv2.out.mono hR9)
     refine rj_nil ?_
     intro a w hf hs
     refine run_no b4 v2.vo Tryz.results32 (Hp.le_trans hR' hR9) rfl hf (L' := ndI b v2 F0.2.1 F0.2.2 ++ Ey) (hs.sub (by (repeat (first|exact zR _|(apply zP;focus (repeat (first|exact zH _|apply zT)))|apply zD|exact zA _ _)))) ?_
     rw [hG]; exact ⟨v2, hfx, hv2.mono hR9, rfl⟩
end V
end Go.Proofs.YtjdbigplednihaaGreat
set_option linter.unusedSimpArgs false
set_option linter.unusedVariables false
set_option maxRecDepth 100000
namespace Go.Proofs.YtjdbigplednihaaGreat
open Go.RowKit
namespace V
set_option maxHeartbeats 4000000
theorem Tri.pre {P : Program} {f : FuncId} {args : List Value} {R : Hp} {L L' : List Asn} {post : Value → Hp → List Asn → Prop} {pan : List PanicEntry → Hp → List Asn → Prop} (h : Tri P f args R L post pan) (hs : ∀ F, Sub (L' ++ F) (L ++ F)) : Tri P f args R L' post pan :=
  fun σ F w s => h σ F w (s.sub (hs F))
theorem NIn.out0 {k : Nat} {x : ND} (h : NIn k x) : NIn k { x with out := [] } :=
  ⟨h.idn, h.term, h.vote, h.base, h.baseT, h.state, h.alln, h.all, h.commit, h.patience, h.peers, h.peer, h.votes, by show 0 ≤ _; omega⟩
theorem tick_t {R : Hp} (b : NB) (v : NV) (x : ND) (D : DK) (k n : Nat) (hk : k ≤ 40) (hx : NIn k x) (hv : NOk R v x) (hD : D.ok n) (hn : n ≤ 700000000) :
    Tri Tryz.prog 9 [.pointer (some ⟨b.x, 0, none⟩)] R (ndI b v x D) (NDone b (runN (x, D) tickN)) := by
  rw [runN_eq]
  refine tri_of Tryz.func9 rfl Tryz.ntmps9 rfl (fun σ F Q hret hend hpan => ?_)
  try simp only [List.cons_append, List.nil_append]
  refine cj_env (eL 0 rfl eN) ?_
  refine cj_seq (fun K1 hK1 => ?_)
  refine cj_region ?_
  refine rj_box (wn0 rfl) rfl rfl rfl (fun bX => ?_)
  refine rv0 rfl rfl rfl (y_assign rfl) ?_
  refine rj_nil ?_
  refine hK1 _ _ _ ?_
  refine cj_seq (fun K2 hK2 => ?_)
  refine cj_region ?_
  first | refine rv0 rfl rfl rfl (y_load ⟨Tryz.isAgg30, Tryz.sizeOf30⟩ rfl (by (repeat (first|exact zH _|apply zT));done) rfl) ?_ | refine rv0 rfl rfl rfl (y_load_slc ⟨Tryz.isAgg30, Tryz.sizeOf30⟩ rfl (by (repeat (first|exact zH _|apply zT));done) rfl) ?_
  refine rv0 rfl rfl rfl (y_makeFunc rfl rfl) ?_
  refine rj_call (wn0 rfl) rfl Tryz.call32 rfl (run_t b v x D 33 [.pointer (some ⟨bX, 0, none⟩)] [blk bX [.pointer (some ⟨b.x, 0, none⟩)] 30] [] (tickN ({ x with out := [] }, D)) Tryz.call33 hv (fun v2 hv2 => Tri.pre (tick1_t b v2 { x with out := [] } D k n bX hk hx.out0 hv2 hD (by omega)) (fun F => by (repeat (first|exact zR _|(apply zP;focus (repeat (first|exact zH _|apply zT)))|apply zD|exact zA _ _)))) (fun F => by (repeat (first|exact zR _|(apply zP;focus (repeat (first|exact zH _|apply zT)))|apply zD|exact zA _ _)))) (by (repeat (first|exact zN _|(apply zS;focus (repeat (first|exact zH _|apply zT)))))) (fun _ _ _ _ h => h.elim) ?_
  rintro r R2 L' hR2 ⟨v2, hr, hv2, rfl⟩
  have hro := hr.one
  try simp only [List.cons_append, List.nil_append]
  refine rv0 rfl rfl rfl (y_assign rfl) ?_
  refine rj_nil ?_
  refine hK2 _ _ _ ?_
  refine cj_env (eL 2 rfl eN) ?_
  refine cj_ret ?_
  refine hret _ _ _ ?_
  apply ej_ret Tryz.results9 (.cons (rv_tmp rfl) .nil) _ (ndI b v2 _ _) hR2 rfl
  case hp => exact ⟨v2, hr, hv2, rfl⟩
  case hS => (repeat (first|exact zR _|(apply zP;focus (repeat (first|exact zH _|apply zT)))|apply zD|exact zA _ _))
theorem receive_t {R : Hp} (b : NB) (v : NV) (x : ND) (D : DK) (m : Msg) (ve : Value) (k n : Nat) (hk : k ≤ 40) (hx : NIn k x) (hv : NOk R v x) (hm : MIm k m) (hve : FrX entE R m.es ve) (hD : D.ok n) (hn : n ≤ 700000000) :
    Tri Tryz.prog 11 [.pointer (some ⟨b.x, 0, none⟩), .agg ⟨msgC m ve⟩] R (ndI b v x D) (NDone b (runN (x, D) (fun s => receiveN s m))) := by
  rw [runN_eq]
  have hveo := hve.one
  refine tri_of Tryz.func11 rfl Tryz.ntmps11 rfl (fun σ F Q hret hend hpan => ?_)
  try simp only [List.cons_append, List.nil_append]
  refine cj_env (eL 0 rfl (eL 1 rfl eN)) ?_
  refine cj_seq (fun K1 hK1 => ?_)
  refine cj_region ?_
  refine rj_box (wn0 rfl) rfl rfl rfl (fun bX => ?_)
  refine rj_box (wn0 rfl) rfl rfl rfl (fun bM => ?_)
  refine rv0 rfl rfl rfl (y_assign rfl) ?_
  refine rj_nil ?_
  refine hK1 _ _ _ ?_
  refine cj_env (eL 2 rfl (eL 3 rfl eN)) ?_
  refine cj_seq (fun K2 hK2 => ?_)
  refine cj_region ?_
  first | refine rv0 rfl rfl rfl (y_load ⟨Tryz.isAgg30, Tryz.sizeOf30⟩ rfl (by (repeat (first|exact zH _|apply zT));done) rfl) ?_ | refine rv0 rfl rfl rfl (y_load_slc ⟨Tryz.isAgg30, Tryz.sizeOf30⟩ rfl (by (repeat (first|exact zH _|apply zT));done) rfl) ?_
  refine rv0 rfl rfl rfl (y_makeFunc rfl rfl) ?_
  refine rj_call (wn0 rfl) rfl Tryz.call32 rfl (run_t b v x D 38 [.pointer (some ⟨bM, 0, none⟩), .pointer (some ⟨bX, 0, none⟩)] [blk bX [.pointer (some ⟨b.x, 0, none⟩)] 30, blk bM (msgC m ve) 48] [] (receiveN ({ x with out := [] }, D) m) Tryz.call38 hv (fun v2 hv2 => Tri.pre (receive1_t b v2 { x with out := [] } D m ve k n bX bM hk hx.out0 hv2 hm hve hD hn) (fun F => by (repeat (first|exact zR _|(apply zP;focus (repeat (first|exact zH _|apply zT)))|apply zD|exact zA _ _)))) (fun F => by (repeat (first|exact zR _|(apply zP;focus (repeat (first|exact zH _|apply zT)))|apply zD|exact zA _ _)))) (by (repeat (first|exact zN _|(apply zS;focus (repeat (first|exact zH _|apply zT)))))) (fun _ _ _ _ h => h.elim) ?_
  rintro r R2 L' hR2 ⟨v2, hr, hv2, rfl⟩
  have hro := hr.one
  try simp only [List.cons_append, List.nil_append]
  refine rv0 rfl rfl rfl (y_assign rfl) ?_
  refine rj_nil ?_
  refine hK2 _ _ _ ?_
  refine cj_env (eL 4 rfl eN) ?_
  refine cj_ret ?_
  refine hret _ _ _ ?_
  apply ej_ret Tryz.results11 (.cons (rv_tmp rfl) .nil) _ (ndI b v2 _ _) hR2 rfl
  case hp => exact ⟨v2, hr, hv2, rfl⟩
  case hS => (repeat (first|exact zR _|(apply zP;focus (repeat (first|exact zH _|apply zT)))|apply zD|exact zA _ _))
theorem entry_in {k : Nat} (hk : k ≤ 90) {x : ND} {D : DK} {cmd : Bs} (hx : NIn k x) (hc : cmd.length ≤ 100) (h : (entryN (x, D) cmd).1 = true) : NIn (k + 2) (entryN (x, D) cmd).2.1 := by
  have hterm := hx.term
  unfold entryN bindN mustN at h ⊢
  dsimp only at h ⊢
  by_cases he : (x.g.addD D x.g.last [(x.g.term, cmd)]).1 = 0
  · simp only [if_pos he, ite_true] at h ⊢
    rw [addD_ok he, feedAll_eq]
    have h1 := hx.add (i := x.g.last) (m := [(x.g.term, cmd)]) (fun e he => by simp at he; subst he; exact ⟨⟨by omega, by omega⟩, hc⟩) (by simp)
    have h2 := NIn.count (by omega) h1
    refine h2.sends _ ?_
    rw [List.length_map]
    have h3 := h2.idn.2
    have h4 := othersL_le (ND.count { x with g := x.g.play (.add x.g.last [(x.g.term, cmd)]) }).id (ND.count { x with g := x.g.play (.add x.g.last [(x.g.term, cmd)]) }).n
    show (othersL _ _).length ≤ 20
    omega
  · simp only [if_neg he] at h
    simp at h
def proposeN (s : NS) (cmd : Bs) : (Int × Int × List Msg) × NS :=
  if ¬ s.1.role = 2 then ((0, 0, []), s) else if downS (runN s (fun s => entryN s cmd)).2 = true then ((0, 0, []), (runN s (fun s => entryN s cmd)).2)
  else (((runN s (fun s => entryN s cmd)).2.1.g.last, (runN s (fun s => entryN s cmd)).2.1.g.term, (runN s (fun s => entryN s cmd)).1), (runN s (fun s => entryN s cmd)).2)
theorem runIn {k : Nat} {x : ND} {D : DK} {f : NS → Bool × NS} (hf : (f ({ x with out := [] }, D)).1 = true → NIn k (f ({ x with out := [] }, D)).2.1) (hl : (f ({ x with out := [] }, D)).1 = false → (f ({ x with out := [] }, D)).2.1.down = true) (h : ¬ downS (runN (x, D) f).2 = true) : NIn k (runN (x, D) f).2.1 := by
  rw [runN_eq] at h ⊢
  unfold runR at h ⊢
  by_cases h1 : downS (x, D) = true
  · rw [if_pos h1] at h; exact absurd h1 h
  · rw [if_neg h1] at h ⊢
    by_cases h2 : (f ({ x with out := [] }, D)).1 = true
    · rw [if_pos h2]; exact hf h2
    · rw [if_neg h2] at h
      have := hl (by simpa using h2)
      exact absurd (by unfold downS; rw [this]; rfl) h
theorem must_down {s : NS} {r : Int × LG × DK} (h : (mustN s r).1 = false) : (mustN s r).2.1.down = true := by
  unfold mustN at h ⊢
  split at h
  · cases h
  · rename_i h1; rw [if_neg h1]
theorem bind_down {r : Bool × NS} {k : NS → Bool × NS} (hr : r.1 = false → r.2.1.down = true) (hk : r.1 = true → (k r.2).1 = false → (k r.2).2.1.down = true) (h : (bindN r k).1 = false) : (bindN r k).2.1.down = true := by
  unfold bindN at h ⊢
  by_cases h1 : r.1 = true
  · rw [if_pos h1] at h ⊢; exact hk h1 h
  · rw [if_neg h1] at h ⊢; exact hr h
theorem entry_down {s : NS} {cmd : Bs} (h : (entryN s cmd).1 = false) : (entryN s cmd).2.1.down = true :=
  bind_down must_down (fun _ h => by cases h) h
theorem propose_t {R : Hp} (b : NB) (v : NV) (x : ND) (D : DK) (cmd : Bs) (k n : Nat) (hk : k ≤ 40) (hx : NIn k x) (hv : NOk R v x) (hc : cmd.length ≤ 100) (hD : D.ok n) (hn : n ≤ 700000000) :
    Tri Tryz.prog 21 [.pointer (some ⟨b.x, 0, none⟩), .string (str cmd)] R (ndI b v x D)
      (fun r R' L' => ∃ vl v', r = tupOf [.int .u64 (proposeN (x, D) cmd).1.1, .int .u64 (proposeN (x, D) cmd).1.2.1, vl] ∧ FrX msgE R' (proposeN (x, D) cmd).1.2.2 vl ∧ NOk R' v' (proposeN (x, D) cmd).2.1 ∧ L' = ndI b v' (proposeN (x, D) cmd).2.1 (proposeN (x, D) cmd).2.2) := by
  obtain ⟨G, hG⟩ : ∃ G, G = runN (x, D) (fun s => entryN s cmd) := ⟨_, rfl⟩
  refine tri_of Tryz.func21 rfl Tryz.ntmps21 rfl (fun σ F Q hret hend hpan => ?_)
  try simp only [List.cons_append, List.nil_append]
  refine cj_env (eL 0 rfl (eL 1 rfl eN)) ?_
  refine cj_seq (fun K1 hK1 => ?_)
  refine cj_region ?_
  refine rj_box (wn0 rfl) rfl rfl rfl (fun bX => ?_)
  refine rj_box (wn0 rfl) rfl rfl rfl (fun bC => ?_)
  refine rv0 rfl rfl rfl (y_assign rfl) ?_
  refine rv0 rfl rfl rfl (y_assign rfl) ?_
  refine rv0 rfl rfl rfl (y_assign rfl) ?_
  refine rj_nil ?_
  refine hK1 _ _ _ ?_
  refine cj_env (eL 2 rfl (eL 3 rfl eN)) ?_
  refine cj_seq (fun K2 hK2 => ?_)
  refine cj_seq (fun K3 hK3 => ?_)
  refine cj_region ?_
  first | refine rv0 rfl rfl rfl (y_load ⟨Tryz.isAgg30, Tryz.sizeOf30⟩ rfl (by (repeat (first|exact zH _|apply zT));done) rfl) ?_ | refine rv0 rfl rfl rfl (y_load_slc ⟨Tryz.isAgg30, Tryz.sizeOf30⟩ rfl (by (repeat (first|exact zH _|apply zT));done) rfl) ?_
  refine rv0 rfl rfl rfl (y_call Tryz.call10 rfl (ndRole_q b v x) (by (repeat (first|exact zN _|(apply zS;focus (repeat (first|exact zH _|apply zT))))))) ?_
  refine rv0 rfl rfl rfl (y_neq rfl rfl) ?_
  refine rj_nil ?_
  refine hK3 _ _ _ ?_
  refine cj_cond rfl (fun hc10 => ?_) (fun hc10 => ?_)
  ·have f1 : ¬ x.role = 2 := by simpa using hc10
   have hP : proposeN (x, D) cmd = ((0, 0, []), (x, D)) := by unfold proposeN; rw [if_pos f1]
   refine cj_seq (fun K5 hK5 => ?_)
   refine cj_region ?_
   refine rv0 rfl rfl rfl (y_assign rfl) ?_
   refine rv0 rfl rfl rfl (y_assign rfl) ?_
   refine rv0 rfl rfl rfl (y_assign rfl) ?_
   refine rj_nil ?_
   refine hK5 _ _ _ ?_
   refine cj_env (eL 4 rfl (eL 5 rfl (eL 6 rfl eN))) ?_
   refine cj_ret ?_
   refine hret _ _ _ ?_
   apply ej_ret Tryz.results21 (.cons (rv_tmp rfl) (.cons (rv_tmp rfl) (.cons (rv_tmp rfl) .nil))) _ (ndI b v x D) (by first | exact Hp.le_refl _ | assumption) rfl
   case hp => rw [hP]; exact ⟨_, v, rfl, FrX.nil, hv, rfl⟩
   case hS => (repeat (first|exact zR _|(apply zP;focus (repeat (first|exact zH _|apply zT)))|apply zD|exact zA _ _))
  ·have f1 : x.role = 2 := by simpa using hc10
   refine cj_skip ?_
   refine hK2 _ _ _ ?_
   refine cj_env (eL 2 rfl (eL 3 rfl eN)) ?_
   refine cj_seq (fun K6 hK6 => ?_)
   refine cj_region ?_
   first | refine rv0 rfl rfl rfl (y_load ⟨Tryz.isAgg30, Tryz.sizeOf30⟩ rfl (by (repeat (first|exact zH _|apply zT));done) rfl) ?_ | refine rv0 rfl rfl rfl (y_load_slc ⟨Tryz.isAgg30, Tryz.sizeOf30⟩ rfl (by (repeat (first|exact zH _|apply zT));done) rfl) ?_
   refine rv0 rfl rfl rfl (y_makeFunc rfl rfl) ?_
   refine rj_call (wn0 rfl) rfl Tryz.call32 rfl (run_t b v x D 52 [.pointer (some ⟨bX, 0, none⟩), .pointer (some ⟨bC, 0, none⟩)] [blk bX [.pointer (some ⟨b.x, 0, none⟩)] 30, blk bC [.string (str cmd)] 9] [blk bX [.pointer (some ⟨b.x, 0, none⟩)] 30, blk bC [.string (str cmd)] 9] (entryN ({ x with out := [] }, D) cmd) Tryz.call52 hv (fun v2 hv2 => Tri.pre (propose1_t b v2 { x with out := [] } D cmd k n bX bC hk hx.out0 hv2 f1 hc hD hn) (fun F => by (repeat (first|exact zR _|(apply zP;focus (repeat (first|exact zH _|apply zT)))|apply zD|exact zA _ _)))) (fun F => by (repeat (first|exact zR _|(apply zP;focus (repeat (first|exact zH _|apply zT)))|apply zD|exact zA _ _)))) (by (repeat (first|exact zN _|(apply zS;focus (repeat (first|exact zH _|apply zT)))))) (fun _ _ _ _ h => h.elim) ?_
   rintro r R2 L' hR2 ⟨v2, hr, hv2, rfl⟩
   have hro := hr.one
   have hGR : runR x D (entryN ({ x with out := [] }, D) cmd) = G := by rw [hG]; rfl
   rw [hGR] at hr hv2 ⊢
   try simp only [List.cons_append, List.nil_append]
   refine rv0 rfl rfl rfl (y_assign rfl) ?_
   refine rj_nil ?_
   refine hK6 _ _ _ ?_
   refine cj_env (eL 2 rfl (eL 7 rfl eN)) ?_
   refine cj_seq (fun K7 hK7 => ?_)
   refine cj_seq (fun K8 hK8 => ?_)
   refine cj_region ?_
   first | refine rv0 rfl rfl rfl (y_load ⟨Tryz.isAgg30, Tryz.sizeOf30⟩ rfl (by (repeat (first|exact zH _|apply zT));done) rfl) ?_ | refine rv0 rfl rfl rfl (y_load_slc ⟨Tryz.isAgg30, Tryz.sizeOf30⟩ rfl (by (repeat (first|exact zH _|apply zT));done) rfl) ?_
   refine rv0 rfl rfl rfl (y_call Tryz.call26 rfl (ndDown_q b v2 G.2.1 G.2.2) (by (repeat (first|exact zN _|(apply zS;focus (repeat (first|exact zH _|apply zT))))))) ?_
   refine rj_nil ?_
   refine hK8 _ _ _ ?_
   refine cj_cond rfl (fun hc15 => ?_) (fun hc15 => ?_)
   ·have g1 : downS G.2 = true := hc15
    have hP : proposeN (x, D) cmd = ((0, 0, []), G.2) := by unfold proposeN; rw [if_neg (by simp [f1]), ← hG, if_pos g1]
    refine cj_seq (fun K10 hK10 => ?_)
    refine cj_region ?_
    refine rv0 rfl rfl rfl (y_assign rfl) ?_
    refine rv0 rfl rfl rfl (y_assign rfl) ?_
    refine rv0 rfl rfl rfl (y_assign rfl) ?_
    refine rj_nil ?_
    refine hK10 _ _ _ ?_
    refine cj_env (eL 4 rfl (eL 5 rfl (eL 6 rfl eN))) ?_
    refine cj_ret ?_
    refine hret _ _ _ ?_
    apply ej_ret Tryz.results21 (.cons (rv_tmp rfl) (.cons (rv_tmp rfl) (.cons (rv_tmp rfl) .nil))) _ (ndI b v2 G.2.1 G.2.2) (by first | exact Hp.le_refl _ | assumption) rfl
    case hp => rw [hP]; exact ⟨_, v2, rfl, FrX.nil, hv2, rfl⟩
    case hS => (repeat (first|exact zR _|(apply zP;focus (repeat (first|exact zH _|apply zT)))|apply zD|exact zA _ _))
   ·have g1 : ¬ downS G.2 = true := by simpa using hc15
    have hP : proposeN (x, D) cmd = ((G.2.1.g.last, G.2.1.g.term, G.1), G.2) := by unfold proposeN; rw [if_neg (by simp [f1]), ← hG, if_neg g1]
    have hGi : NIn (k + 2) G.2.1 := by rw [hG] at g1 ⊢; exact runIn (fun h => entry_in (by omega) hx.out0 hc h) (fun h => entry_down h) g1
    have hgG := hGi.g (by omega)
    refine cj_skip ?_
    refine hK7 _ _ _ ?_
    refine cj_seq (fun K11 hK11 => ?_)
    refine cj_draw (by kernel_rfl) (by kernel_rfl) ?_
    first | refine qj_val (wn0 rfl) rfl rfl (y_load ⟨Tryz.isAgg30, Tryz.sizeOf30⟩ rfl (by (repeat (first|exact zH _|apply zT));done) rfl) ?_ | refine qj_val (wn0 rfl) rfl rfl (y_load_slc ⟨Tryz.isAgg30, Tryz.sizeOf30⟩ rfl (by (repeat (first|exact zH _|apply zT));done) rfl) ?_
    refine qj_val (wn0 rfl) rfl rfl (y_nilCheck rfl) ?_
    refine qj_val (wn0 rfl) rfl rfl (y_fieldAddr (k := 2) Tryz.underlying81 rfl (n := 1) (by decide) Tryz.sizeOf44 rfl) ?_
    first | refine qj_val (wn0 rfl) rfl rfl (y_load ⟨Tryz.isAgg44, Tryz.sizeOf44⟩ rfl (by (repeat (first|exact zH _|apply zT));done) rfl) ?_ | refine qj_val (wn0 rfl) rfl rfl (y_load_slc ⟨Tryz.isAgg44, Tryz.sizeOf44⟩ rfl (by (repeat (first|exact zH _|apply zT));done) rfl) ?_
    refine qj_val (wn0 rfl) rfl rfl (y_call Tryz.call19 rfl (lgLast_q b.l (some ⟨b.d, 0, none⟩) v2.va G.2.1.g hgG hv2.va) (by (repeat (first|exact zN _|(apply zS;focus (repeat (first|exact zH _|apply zT))))))) ?_
    first | refine qj_val (wn0 rfl) rfl rfl (y_load ⟨Tryz.isAgg30, Tryz.sizeOf30⟩ rfl (by (repeat (first|exact zH _|apply zT));done) rfl) ?_ | refine qj_val (wn0 rfl) rfl rfl (y_load_slc ⟨Tryz.isAgg30, Tryz.sizeOf30⟩ rfl (by (repeat (first|exact zH _|apply zT));done) rfl) ?_
    refine qj_val (wn0 rfl) rfl rfl (y_nilCheck rfl) ?_
    refine qj_val (wn0 rfl) rfl rfl (y_fieldAddr (k := 2) Tryz.underlying81 rfl (n := 1) (by decide) Tryz.sizeOf44 rfl) ?_
    first | refine qj_val (wn0 rfl) rfl rfl (y_load ⟨Tryz.isAgg44, Tryz.sizeOf44⟩ rfl (by (repeat (first|exact zH _|apply zT));done) rfl) ?_ | refine qj_val (wn0 rfl) rfl rfl (y_load_slc ⟨Tryz.isAgg44, Tryz.sizeOf44⟩ rfl (by (repeat (first|exact zH _|apply zT));done) rfl) ?_
    refine qj_val (wn0 rfl) rfl rfl (y_call Tryz.call13 rfl (lgTerm_q b.l (some ⟨b.d, 0, none⟩) v2.va G.2.1.g) (by (repeat (first|exact zN _|(apply zS;focus (repeat (first|exact zH _|apply zT))))))) ?_
    refine qj_val (wn0 rfl) rfl rfl (y_move rfl) ?_
    refine qj_val (wn0 rfl) rfl rfl (y_assign rfl) ?_
    refine qj_val (wn0 rfl) rfl rfl (y_assign rfl) ?_
    refine qj_val (wn0 rfl) rfl rfl (y_assign rfl) ?_
    refine qj_nil ?_
    refine hK11 _ _ _ ?_
    refine cj_env (eL 4 rfl (eL 5 rfl (eL 6 rfl eN))) ?_
    refine cj_ret ?_
    refine hret _ _ _ ?_
    apply ej_ret Tryz.results21 (.cons (rv_tmp rfl) (.cons (rv_tmp rfl) (.cons (rv_tmp rfl) .nil))) _ (ndI b v2 G.2.1 G.2.2) (by first | exact Hp.le_refl _ | assumption) rfl
    case hp => rw [hP]; exact ⟨_, v2, rfl, hr, hv2, rfl⟩
    case hS => (repeat (first|exact zR _|(apply zP;focus (repeat (first|exact zH _|apply zT)))|apply zD|exact zA _ _))
end V
end Go.Proofs.YtjdbigplednihaaGreat
set_option linter.unusedSimpArgs false
set_option linter.unusedVariables false
set_option maxRecDepth 100000
namespace Go.Proofs.YtjdbigplednihaaGreat
open Go.RowKit
namespace V
set_option maxHeartbeats 4000000
def NV.new (u va : Value) : NV := ⟨u, va, .map none, .slice none 0 0, .slice none 0 0, []⟩
theorem start_t {R : Hp} (l d id n : Nat) (u va : Value) (g : LG) (D : DK) (hn : id < n ∧ n ≤ 9) (hva : FrX entE R g.all va) :
    Tri Tryz.prog 25 [.int .i64 (id : Int), .int .i64 (n : Int), .pointer (some ⟨l, 0, none⟩)] R [lgB l (some ⟨d, 0, none⟩) va g, dkB d u D, dkS u D]
      (fun r R' L' => ((g.down || D.down) = true ∧ r = tupOf [.pointer none, .int .i64 3] ∧ L' = [lgB l (some ⟨d, 0, none⟩) va g, dkB d u D, dkS u D]) ∨
        (¬ (g.down || D.down) = true ∧ ∃ bx, r = tupOf [.pointer (some ⟨bx, 0, none⟩), .int .i64 0] ∧ NOk R' (NV.new u va) (ND.start id n g) ∧ L' = ndI ⟨bx, l, d⟩ (NV.new u va) (ND.start id n g) D)) := by
  refine tri_of Tryz.func25 rfl Tryz.ntmps25 rfl (fun σ F Q hret hend hpan => ?_)
  try simp only [List.cons_append, List.nil_append]
  refine cj_env (eL 0 rfl (eL 1 rfl (eL 2 rfl eN))) ?_
  refine cj_seq (fun K1 hK1 => ?_)
  refine cj_region ?_
  refine rv0 rfl rfl rfl (y_assign rfl) ?_
  refine rv0 rfl rfl rfl (y_assign rfl) ?_
  refine rj_nil ?_
  refine hK1 _ _ _ ?_
  refine cj_seq (fun K2 hK2 => ?_)
  refine cj_block ?_
  refine cj_seq (fun K3 hK3 => ?_)
  refine cj_region ?_
  refine rv0 rfl rfl rfl (y_move rfl) ?_
  refine rv0 rfl rfl rfl ((Yld.to (u := .bool false) (y_lss rfl rfl) (by rw [decide_eq_false (by omega)]))) ?_
  refine rv0 rfl rfl rfl (y_move rfl) ?_
  refine rj_val (wn1 rfl rfl rfl rfl) rfl rfl (y_move rfl) ?_
  refine rj_val (wn1 rfl rfl rfl rfl) rfl rfl ((Yld.to (u := .bool false) (y_gtr rfl rfl) (by rw [decide_eq_false (by omega)]))) ?_
  refine rv0 rfl rfl rfl (y_pick_f rfl rfl) ?_
  refine rv0 rfl rfl rfl (y_move rfl) ?_
  refine rj_val (wn1 rfl rfl rfl rfl) rfl rfl (y_move rfl) ?_
  refine rj_val (wn1 rfl rfl rfl rfl) rfl rfl ((Yld.to (u := .bool false) (y_lss rfl rfl) (by rw [decide_eq_false (by omega)]))) ?_
  refine rv0 rfl rfl rfl (y_pick_f rfl rfl) ?_
  refine rv0 rfl rfl rfl (y_move rfl) ?_
  refine rj_val (wn1 rfl rfl rfl rfl) rfl rfl (y_move rfl) ?_
  refine rj_val (wn1 rfl rfl rfl rfl) rfl rfl (y_move rfl) ?_
  refine rj_val (wn1 rfl rfl rfl rfl) rfl rfl ((Yld.to (u := .bool false) (y_geq rfl rfl) (by rw [decide_eq_false (by omega)]))) ?_
  refine rv0 rfl rfl rfl (y_pick_f rfl rfl) ?_
  refine rv0 rfl rfl rfl (y_assign rfl) ?_
  refine rj_nil ?_
  refine hK3 _ _ _ ?_
  refine cj_env (eL 0 rfl (eL 1 rfl (eL 2 rfl (eL 11 rfl eN)))) ?_
  refine cj_cond_f rfl ?_
  refine cj_seq (fun K4 hK4 => ?_)
  refine cj_region ?_
  refine rv0 rfl rfl rfl (y_move rfl) ?_
  refine rv0 rfl rfl rfl (y_call Tryz.call59 rfl (lgDown_q l d va u g D) (by (repeat (first|exact zN _|(apply zS;focus (repeat (first|exact zH _|apply zT))))))) ?_
  refine rv0 rfl rfl rfl (y_assign rfl) ?_
  refine rj_nil ?_
  refine hK4 _ _ _ ?_
  refine cj_env (eL 0 rfl (eL 1 rfl (eL 2 rfl (eL 27 rfl eN)))) ?_
  refine cj_cond rfl (fun hc27 => ?_) (fun hc27 => ?_)
  ·have f1 : (g.down || D.down) = true := hc27
   refine cj_seq (fun K6 hK6 => ?_)
   refine cj_region ?_
   refine rv0 rfl rfl rfl (y_assign rfl) ?_
   refine rv0 rfl rfl rfl (y_assign rfl) ?_
   refine rj_nil ?_
   refine hK6 _ _ _ ?_
   refine cj_env (eL 6 rfl (eL 7 rfl eN)) ?_
   refine cj_ret ?_
   refine hret _ _ _ ?_
   apply ej_ret Tryz.results25 (.cons (rv_tmp rfl) (.cons (rv_tmp rfl) .nil)) _ [lgB l (some ⟨d, 0, none⟩) va g, dkB d u D, dkS u D] (by (first | exact Hp.le_refl _ | assumption | exact Hp.le_trans ‹_› ‹_›)) rfl
   case hp => exact .inl ⟨f1, rfl, rfl⟩
   case hS => (repeat (first|exact zR _|(apply zP;focus (repeat (first|exact zH _|apply zT)))|apply zD|exact zA _ _))
  ·have f1 : ¬ (g.down || D.down) = true := by simpa using hc27
   refine cj_skip ?_
   refine hK2 _ _ _ ?_
   refine cj_seq (fun K7 hK7 => ?_)
   refine cj_region ?_
   refine rv0 rfl rfl rfl (y_move rfl) ?_
   refine rv0 rfl rfl rfl (y_call Tryz.call18 rfl (lgBase_q l (some ⟨d, 0, none⟩) va g) (by (repeat (first|exact zN _|(apply zS;focus (repeat (first|exact zH _|apply zT))))))) ?_
   refine rv0 rfl rfl rfl (y_move rfl) ?_
   refine rv0 rfl rfl rfl (y_extract rfl rfl) ?_
   refine rv0 rfl rfl rfl (y_extract rfl rfl) ?_
   refine rv0 rfl rfl rfl (y_extract rfl rfl) ?_
   refine rv0 rfl rfl rfl (y_assign rfl) ?_
   refine rv0 rfl rfl rfl (y_assign rfl) ?_
   refine rv0 rfl rfl rfl (y_assign rfl) ?_
   refine rj_nil ?_
   refine hK7 _ _ _ ?_
   refine cj_env (eL 0 rfl (eL 1 rfl (eL 2 rfl (eL 8 rfl eN)))) ?_
   refine cj_seq (fun K8 hK8 => ?_)
   refine cj_region ?_
   refine rv0 rfl rfl rfl (y_move rfl) ?_
   refine rv0 rfl rfl rfl (y_move rfl) ?_
   refine rv0 rfl rfl rfl (y_move rfl) ?_
   refine rv0 rfl rfl rfl (y_move rfl) ?_
   refine rv0 rfl rfl rfl (y_build (cells := [_, _, _, _, _, _, _, _, _, _, _]) [(0, 1), (1, 1), (2, 1), (3, 1), (4, 1), (5, 1), (6, 1), (7, 1), (8, 1), (9, 1), (10, 1)] Tryz.underlying81 Tryz.zeroValue81 (fun _ => rfl) rfl rfl) ?_
   refine rj_box (wn0 rfl) rfl rfl rfl (fun bx => ?_)
   refine rv0 rfl rfl rfl (y_assign rfl) ?_
   refine rv0 rfl rfl rfl (y_assign rfl) ?_
   refine rj_add (A := prA (NV.new u va) (ND.start id n g)) (slc_nil _ _) ?_
   refine rj_add (A := mpA (NV.new u va).vm (ND.start id n g).votes) (fun _ => trivial) ?_
   refine rj_nil ?_
   refine hK8 _ _ _ ?_
   refine cj_env (eL 6 rfl (eL 7 rfl eN)) ?_
   refine cj_ret ?_
   refine hret _ _ _ ?_
   apply ej_ret Tryz.results25 (.cons (rv_tmp rfl) (.cons (rv_tmp rfl) .nil)) _ (ndI ⟨bx, l, d⟩ (NV.new u va) (ND.start id n g) D) (by (first | exact Hp.le_refl _ | assumption | exact Hp.le_trans ‹_› ‹_›)) rfl
   case hp => exact .inr ⟨f1, bx, rfl, ⟨hva, Els.nil, rfl, rfl, rfl, fun h => absurd (show (0 : Int) = 1 from h) (by decide)⟩, rfl⟩
   case hS => (repeat (first|exact zR _|(apply zP;focus (repeat (first|exact zH _|apply zT)))|apply zD|exact zA _ _))
end V
end Go.Proofs.YtjdbigplednihaaGreat
set_option linter.unusedSimpArgs false
set_option linter.unusedVariables false
namespace Go.Proofs.YtjdbigplednihaaGreat
open Go.RowKit
namespace V
set_option maxHeartbeats 4000000
def DKh (D : DK) : Prop := D.down = false ∧ D.bound = false
theorem step_h {D : DK} (h : DKh D) : D.step = (true, D) := by unfold DK.step; simp [h.1, h.2]
theorem put_h {D : DK} (h : DKh D) (s : Bs) : (D.put s).1 = 0 ∧ DKh (D.put s).2 ∧ (D.put s).2.b = D.b ++ s ∧ (D.put s).2.sure = (D.b ++ s).length := by
  have e2 : D.append s = (0, { D with b := D.b ++ s }) := by unfold DK.append; rw [step_h h]; rfl
  have e3 : D.put s = (0, { D with b := D.b ++ s, sure := (D.b ++ s).length }) := by
    unfold DK.put
    rw [e2]
    simp only [ite_true]
    unfold DK.sync
    rw [step_h (D := { D with b := D.b ++ s }) h]; rfl
  rw [e3]
  exact ⟨rfl, h, rfl, rfl⟩
theorem swap_h {D : DK} (h : DKh D) (s : Bs) : (D.swap s).1 = 0 ∧ DKh (D.swap s).2 ∧ (D.swap s).2.b = s ∧ (D.swap s).2.sure = s.length := by
  unfold DK.swap
  rw [step_h h]
  exact ⟨rfl, h, rfl, rfl⟩
theorem addD_h {g : LG} {D : DK} (hg : g.down = false) (h : DKh D) {i : Int} {m : List Ent} (hi : g.base ≤ i ∧ i ≤ g.last) : (g.addD D i m).1 = 0 ∧ (g.addD D i m).2.1 = g.play (.add i m) ∧ (g.addD D i m).2.2 = (D.put (Rec.add i m).bytes).2 := by
  have hp := put_h h (Rec.add i m).bytes
  unfold LG.addD
  rw [if_neg (by simp [hg, h.1]), if_neg (by omega), if_pos hp.1]
  exact ⟨rfl, rfl, rfl⟩
theorem setD_h {g : LG} {D : DK} (hg : g.down = false) (h : DKh D) {t v : Int} (ht : g.term ≤ t) (hv : -1 ≤ v) : (g.setTermD D t v).1 = 0 ∧ (g.setTermD D t v).2.1 = { g with term := t, vote := v } ∧ (g.setTermD D t v).2.2 = (D.put (Rec.term t v).bytes).2 := by
  have hp := put_h h (Rec.term t v).bytes
  unfold LG.setTermD
  rw [if_neg (by simp [hg, h.1]), if_neg (by omega), if_pos hp.1]
  exact ⟨rfl, rfl, rfl⟩
theorem instD_h {g : LG} {D : DK} (hg : g.down = false) (h : DKh D) {i t : Int} {s : Bs} (hi : g.base < i) : (g.instD D i t s).1 = 0 ∧ (g.instD D i t s).2.1 = g.inst i t s ∧ ∃ to, (g.instD D i t s).2.2 = (D.swap (Rec.all to).bytes).2 ∧ to = g.inst i t s := by
  unfold LG.instD LG.inst
  rw [if_neg (by simp [hg, h.1]), if_neg (by omega)]
  by_cases h1 : g.termAt i = some t
  · have h2 : i ≤ g.last := by
      unfold LG.termAt at h1
      rw [if_neg (by omega)] at h1
      unfold LG.at at h1
      split at h1
      · rename_i h3; exact h3.2
      · cases h1
    rw [if_pos h1, if_pos h1]
    unfold LG.compD
    rw [if_neg (by simp [hg, h.1]), if_neg (by omega)]
    unfold LG.swapD
    rw [if_pos (swap_h h _).1]
    exact ⟨rfl, rfl, _, rfl, rfl⟩
  · rw [if_neg h1, if_neg h1]
    unfold LG.swapD
    rw [if_pos (swap_h h _).1]
    exact ⟨rfl, rfl, _, rfl, rfl⟩
theorem LD.mono2 {n m : Nat} {g : LG} {D : DK} (h : LD n g D) (hm : n ≤ m) : LD m g D := by
  obtain ⟨h1, h2, h3, h4, h5, h6, h7⟩ := h
  exact ⟨h1, h2, h3, h4, h5, by omega, h7⟩
def Hs (n : Nat) (r : Bool × NS) (y : ND) : Prop := r.1 = true ∧ r.2.1 = y ∧ LD n y.g r.2.2
theorem LD.h {n : Nat} {g : LG} {D : DK} (h : LD n g D) : DKh D := ⟨h.1, h.2.1⟩
theorem must_add {n k : Nat} {x : ND} {D : DK} (hk : k ≤ 90) (hl : LD n x.g D) (hx : NIn k x) {i : Int} {m : List Ent} (hi : x.g.base ≤ i ∧ i ≤ x.g.last) (hm : ∀ e ∈ m, (0 ≤ e.1 ∧ e.1 ≤ 2305843009213693952 + k) ∧ e.2.length ≤ 100) (hn : m.length ≤ 20) :
    Hs (n + 3000) (mustN (x, D) (x.g.addD D i m)) { x with g := x.g.play (.add i m) } := by
  have hgd : x.g.down = false := hl.2.2.2.2.1
  obtain ⟨h1, h2, h3⟩ := addD_h hgd hl.h (m := m) hi
  have hg2 := (hx.add (i := i) hm hn).g (by omega)
  have hb := hx.base
  have hal := hx.alln
  have hle : x.g.last = x.g.base + x.g.all.length := rfl
  have hen := ents_le (fun e he => (hm e he).2)
  have hmb : ∀ e ∈ m, u64B e.1 ∧ e.2.length ≤ 1000000 := fun e he => by have := hm e he; unfold u64B; omega
  have hln := Rec.len_add (b := i) (by omega) hmb (by omega)
  obtain ⟨p1, p2⟩ := LD.put hl (r := .add i m) (k := 2900) ⟨hi, hmb, by omega⟩ (by omega) (by omega) hg2
  unfold mustN
  rw [if_pos h1, h2, h3]
  obtain ⟨q1, q2, q3, q4, q5, q6, q7⟩ := p2
  exact ⟨rfl, rfl, q1, q2, q3, q4, q5, Nat.le_trans q6 (by omega), q7⟩
theorem must_set {n k : Nat} {x : ND} {D : DK} (hk : k ≤ 90) (hl : LD n x.g D) (hx : NIn k x) {t v : Int} (ht : x.g.term ≤ t ∧ t ≤ 2305843009213693952 + (k + 1)) (hv : -1 ≤ v ∧ v < 9) :
    Hs (n + 3000) (mustN (x, D) (x.g.setTermD D t v)) { x with g := { x.g with term := t, vote := v } } := by
  have hgd : x.g.down = false := hl.2.2.2.2.1
  obtain ⟨h1, h2, h3⟩ := setD_h hgd hl.h ht.1 hv.1
  have hterm := hx.term
  have hg2 := (hx.set (t := t) (vt := v) (by omega) hv).g (by omega)
  have hln := Rec.len_term (t := t) (v := v) (by unfold u64B; omega) (by omega)
  obtain ⟨p1, p2⟩ := LD.put hl (r := .term t v) (k := 2900) ⟨by unfold u64B; omega, hv.1, by omega⟩ (by omega) (by omega) hg2
  unfold mustN
  rw [if_pos h1, h2, h3]
  obtain ⟨q1, q2, q3, q4, q5, q6, q7⟩ := p2
  exact ⟨rfl, rfl, q1, q2, q3, q4, q5, Nat.le_trans q6 (by omega), q7⟩
theorem Hs.bind {n m : Nat} {r : Bool × NS} {y z : ND} {f : NS → Bool × NS} (h : Hs n r y) (hf : ∀ D, LD n y.g D → Hs m (f (y, D)) z) : Hs m (bindN r f) z := by
  obtain ⟨h1, h2, h3⟩ := h
  unfold bindN
  rw [if_pos h1, show r.2 = (y, r.2.2) from by rw [← h2]]
  exact hf _ h3
def ND.entryP (x : ND) (cmd : Bs) : ND := (ND.count { x with g := x.g.play (.add x.g.last [(x.g.term, cmd)]) }).feedAll
def ND.winP (x : ND) : ND := x.wins.entryP []
def ND.standP (x : ND) : ND := if x.n = 1 then (ND.stands { x with g := { x.g with term := x.g.term + 1, vote := x.id } }).winP else (ND.stands { x with g := { x.g with term := x.g.term + 1, vote := x.id } }).askAll
def ND.tickP (x : ND) : ND :=
  if x.role = 2 then if x.patience + 1 ≥ 3 then ND.feedAll { x with patience := 0 } else { x with patience := x.patience + 1 }
  else if x.patience + 1 ≥ limitI x.id x.g.term then ND.standP { x with patience := x.patience + 1 } else { x with patience := x.patience + 1 }
def ND.askedP (x : ND) (m : Msg) : ND := if x.grants m = true then ND.send { x with g := { x.g with term := x.g.term, vote := m.frm }, patience := 0 } (ND.voteMsg m true) else x.send (ND.voteMsg m false)
def ND.votedP (x : ND) (m : Msg) : ND :=
  if ¬ x.role = 1 ∨ ¬ m.term = x.g.term ∨ m.ok = false then x
  else if 2 * ((setAdd x.votes m.frm).length : Int) > x.n then ND.winP { x with votes := setAdd x.votes m.frm } else { x with votes := setAdd x.votes m.frm }
def ND.restP (x : ND) (m : Msg) (c : Int × List Ent) : ND := match ND.fits x.g c.2 (c.1 + 1) with
  | none => (x.commits m (c.1 + c.2.length)).answer m true (c.1 + c.2.length)
  | some (i, l) => if i ≤ x.commit then x else (ND.commits { x with g := x.g.play (.add (i - 1) l) } m (c.1 + c.2.length)).answer m true (c.1 + c.2.length)
def ND.addP (x : ND) (m : Msg) : ND :=
  if m.index < x.g.base ∧ (m.es.length : Int) < x.g.base - m.index then x.answer m true x.g.base
  else if ¬ m.index < x.g.base ∧ ¬ x.g.termAt m.index = some m.logTerm then x.answer m false (min x.g.last (max m.index 1 - 1))
  else x.restP m (x.cutM m)
def ND.snapP (x : ND) (m : Msg) : ND := if m.index > x.commit then ND.answer { x with g := x.g.inst m.index m.logTerm m.state, commit := m.index } m true m.index else x.answer m true x.commit
def ND.fedP (x : ND) (m : Msg) : ND := if m.term < x.g.term then x.answer m false 0 else if x.role = 2 then x else if m.kind = 2 then (x.follows m).addP m else (x.follows m).snapP m
def ND.heardP (x : ND) (m : Msg) : ND := (heardN (x, DK.new) m).2.1
def ND.kindP (x : ND) (m : Msg) : ND := if m.kind = 0 then x.askedP m else if m.kind = 1 then x.votedP m else if m.kind = 2 ∨ m.kind = 4 then x.fedP m else if m.kind = 3 then x.heardP m else x
def ND.receiveP (x : ND) (m : Msg) : ND :=
  if ¬ m.to = x.id ∨ m.frm = x.id ∨ m.frm < 0 ∨ m.frm ≥ x.n then x
  else if m.term > x.g.term then (ND.newTerm { x with g := { x.g with term := m.term, vote := -1 } }).kindP m else x.kindP m
theorem Hs.ret {n m : Nat} {y : ND} {D : DK} {g : LG} (h : LD n g D) (hg : y.g = g) (hm : n ≤ m) : Hs m (true, (y, D)) y := ⟨rfl, rfl, by rw [hg]; exact LD.mono2 h hm⟩
theorem feedAll_g (x : ND) : x.feedAll.g = x.g := by rw [feedAll_eq]; rfl
theorem askAll_g (x : ND) : x.askAll.g = x.g := by unfold ND.askAll; rw [asks_eq]; rfl
theorem count_g (x : ND) : x.count.g = x.g := (count_out x).2.1
theorem entry_h {n k : Nat} {x : ND} {D : DK} {cmd : Bs} (hk : k ≤ 90) (hl : LD n x.g D) (hx : NIn k x) (hc : cmd.length ≤ 100) : Hs (n + 3000) (entryN (x, D) cmd) (x.entryP cmd) := by
  have ht := hx.term
  have hle : x.g.last = x.g.base + x.g.all.length := rfl
  exact Hs.bind (must_add (i := x.g.last) (m := [(x.g.term, cmd)]) hk hl hx ⟨by omega, Int.le_refl _⟩ (fun e he => by simp at he; subst he; exact ⟨⟨by omega, by omega⟩, hc⟩) (by simp)) (fun D' h => Hs.ret h (by rw [feedAll_g, count_g]) (Nat.le_refl _))
theorem win_h {n k : Nat} {x : ND} {D : DK} (hk : k ≤ 90) (hl : LD n x.g D) (hx : NIn k x) : Hs (n + 3000) (winN (x, D)) x.winP :=
  entry_h (x := x.wins) hk hl (NIn.wins (by omega) hx) (by simp)
theorem stand_h {n k : Nat} {x : ND} {D : DK} (hk : k ≤ 80) (hl : LD n x.g D) (hx : NIn k x) : Hs (n + 6000) (standN (x, D)) x.standP := by
  have ht := hx.term
  have hid := hx.idn
  refine Hs.bind (must_set (by omega) hl hx (t := x.g.term + 1) (v := x.id) (by omega) (by omega)) (fun D' h => ?_)
  have h1 := (hx.set (t := x.g.term + 1) (vt := x.id) (by omega) (by omega)).stands
  unfold ND.standP
  dsimp only
  by_cases hn : x.n = 1
  · rw [if_pos hn, if_pos hn]
    exact win_h (k := k + 1) (by omega) h h1
  · rw [if_neg hn, if_neg hn]
    exact Hs.ret h (askAll_g _) (by omega)
theorem tick_h {n k : Nat} {x : ND} {D : DK} (hk : k ≤ 70) (hl : LD n x.g D) (hx : NIn k x) : Hs (n + 6000) (tickN (x, D)) x.tickP := by
  have hp := hx.patience
  unfold tickN ND.tickP
  dsimp only
  by_cases h1 : x.role = 2
  · rw [if_pos h1, if_pos h1]
    by_cases h2 : x.patience + 1 ≥ 3
    · rw [if_pos h2, if_pos h2]; exact Hs.ret hl (feedAll_g _) (by omega)
    · rw [if_neg h2, if_neg h2]; exact Hs.ret hl rfl (by omega)
  · rw [if_neg h1, if_neg h1]
    by_cases h2 : x.patience + 1 ≥ limitI x.id x.g.term
    · rw [if_pos h2, if_pos h2]
      exact stand_h (k := k + 1) (x := { x with patience := x.patience + 1 }) (by omega) hl ((hx.le (show k ≤ k + 1 by omega)).pat (by omega))
    · rw [if_neg h2, if_neg h2]; exact Hs.ret hl rfl (by omega)
theorem asked_h {n k : Nat} {x : ND} {D : DK} {m : Msg} (hk : k ≤ 70) (hl : LD n x.g D) (hx : NIn k x) (hm : MIn k x.n m) : Hs (n + 3000) (askedN (x, D) m) (x.askedP m) := by
  have hf := hm.frm
  have hid := hx.idn
  have ht := hx.term
  unfold askedN ND.askedP
  dsimp only
  by_cases h1 : x.grants m = true
  · rw [if_pos h1, if_pos h1]
    exact Hs.bind (must_set (by omega) hl hx (t := x.g.term) (v := m.frm) (by omega) (by omega)) (fun D' h => Hs.ret h rfl (Nat.le_refl _))
  · rw [if_neg h1, if_neg h1]; exact Hs.ret hl rfl (by omega)
theorem voted_h {n k : Nat} {x : ND} {D : DK} {m : Msg} (hk : k ≤ 70) (hl : LD n x.g D) (hx : NIn k x) (hm : MIn k x.n m) : Hs (n + 3000) (votedN (x, D) m) (x.votedP m) := by
  unfold votedN ND.votedP
  dsimp only
  by_cases h1 : ¬ x.role = 1 ∨ ¬ m.term = x.g.term ∨ m.ok = false
  · rw [if_pos h1, if_pos h1]; exact Hs.ret hl rfl (by omega)
  · rw [if_neg h1, if_neg h1]
    by_cases h2 : 2 * ((setAdd x.votes m.frm).length : Int) > x.n
    · rw [if_pos h2, if_pos h2]
      exact win_h (k := k) (x := { x with votes := setAdd x.votes m.frm }) (by omega) hl (hx.vote1 hm.frm)
    · rw [if_neg h2, if_neg h2]; exact Hs.ret hl rfl (by omega)
theorem fits_at {g : LG} : ∀ {l : List Ent} {i j : Int} {l2 : List Ent}, ND.fits g l i = some (j, l2) → i ≤ j ∧ (∃ c : Nat, l2 = l.drop c ∧ j = i + c) ∧ (j = i ∨ (∃ e, g.at (j - 1) = some e))
  | [], i, j, l2, h => by cases h
  | e :: l, i, j, l2, h => by
    by_cases h1 : (g.at i).map (·.1) = some e.1
    · rw [fits_yes h1] at h
      obtain ⟨a, ⟨c, hc1, hc2⟩, d⟩ := fits_at h
      refine ⟨by omega, ⟨c + 1, by simpa using hc1, by omega⟩, .inr ?_⟩
      rcases d with d | d
      · subst d
        cases h2 : g.at i with
        | none => rw [h2] at h1; cases h1
        | some e2 => exact ⟨e2, by rw [show i + 1 - 1 = i by omega]; exact h2⟩
      · exact d
    · rw [fits_no h1] at h
      cases h
      exact ⟨Int.le_refl _, ⟨0, by simp, by omega⟩, .inl rfl⟩
theorem at_last {g : LG} {i : Int} {e : Ent} (h : g.at i = some e) : g.base < i ∧ i ≤ g.last := by
  unfold LG.at at h
  split at h
  · assumption
  · cases h
theorem termAt_last {g : LG} {i t : Int} (h : g.termAt i = some t) : g.base ≤ i ∧ i ≤ g.last := by
  unfold LG.termAt at h
  split at h
  · rename_i h1; unfold LG.last; omega
  · cases h2 : g.at i with
    | none => rw [h2] at h; cases h
    | some e => have := at_last h2; omega
theorem rest_h {n k : Nat} {x : ND} {D : DK} {m : Msg} (hk : k ≤ 70) (hl : LD n x.g D) (hx : NIn k x) (hm : MIn k x.n m) (hc : x.g.base ≤ (x.cutM m).1 ∧ (x.cutM m).1 ≤ x.g.last) : Hs (n + 3000) (restN x D m (x.cutM m)) (x.restP m (x.cutM m)) := by
  obtain ⟨hb1, hb2, hb3⟩ := cutM_b hx hm
  unfold restN ND.restP
  cases hfi : ND.fits x.g (x.cutM m).2 ((x.cutM m).1 + 1) with
  | none => exact Hs.ret hl rfl (by omega)
  | some p =>
    obtain ⟨i, l⟩ := p
    obtain ⟨a1, ⟨c, hc1, hc2⟩, a3⟩ := fits_at hfi
    dsimp only
    by_cases h1 : i ≤ x.commit
    · rw [if_pos h1, if_pos h1]; exact Hs.ret hl rfl (by omega)
    · rw [if_neg h1, if_neg h1]
      have hi : x.g.base ≤ i - 1 ∧ i - 1 ≤ x.g.last := by
        rcases a3 with a3 | ⟨e, a3⟩
        · omega
        · have := at_last a3; omega
      exact Hs.bind (must_add (i := i - 1) (m := l) (by omega) hl hx hi (fun e he => hb3 e (by rw [hc1] at he; exact List.mem_of_mem_drop he)) (by rw [hc1]; simp; omega)) (fun D' h => Hs.ret h rfl (Nat.le_refl _))
theorem add_h {n k : Nat} {x : ND} {D : DK} {m : Msg} (hk : k ≤ 70) (hl : LD n x.g D) (hx : NIn k x) (hm : MIn k x.n m) : Hs (n + 3000) (addN (x, D) m) (x.addP m) := by
  unfold ND.addP
  by_cases h1 : m.index < x.g.base ∧ (m.es.length : Int) < x.g.base - m.index
  · unfold addN
    rw [if_pos h1, if_pos h1]; exact Hs.ret hl rfl (by omega)
  · by_cases h2 : ¬ m.index < x.g.base ∧ ¬ x.g.termAt m.index = some m.logTerm
    · unfold addN
      rw [if_neg h1, if_neg h1, if_pos h2, if_pos h2]; exact Hs.ret hl rfl (by omega)
    · rw [addN_eq h1 h2, if_neg h1, if_neg h2]
      refine rest_h hk hl hx hm ?_
      unfold ND.cutM
      by_cases h3 : m.index < x.g.base
      · rw [if_pos h3]; unfold LG.last; dsimp only; omega
      · rw [if_neg h3]
        have h4 : x.g.termAt m.index = some m.logTerm := by
          by_cases h4 : x.g.termAt m.index = some m.logTerm
          · exact h4
          · exact absurd ⟨h3, h4⟩ h2
        exact termAt_last h4
theorem LD.swap {n : Nat} {g to : LG} {D : DK} (h : LD n g D) (ht : to.ok) (hd : to.down = false) (hw : (wr (Rec.all to).nd).length ≤ 16777216) (hn : 17000000 ≤ n) : LD n to (D.swap (Rec.all to).bytes).2 := by
  obtain ⟨h1, h2, h3, h4, h5, h6, rs, h7, h8⟩ := h
  have e : D.swap (Rec.all to).bytes = (0, { D with b := (Rec.all to).bytes, sure := (Rec.all to).bytes.length }) := by
    unfold DK.swap; rw [step_h ⟨h1, h2⟩]; rfl
  rw [e]
  have hp : LG.new.play (.all to) = to := by
    show { to with down := false } = to
    cases to; simp at hd; subst hd; rfl
  refine ⟨h1, h2, rfl, h4, hd, ?_, [Rec.all to], by simp [recsB], .cons LG.new_ok ht hw ?_⟩
  · show (Rec.all to).bytes.length ≤ n
    unfold Rec.bytes; rw [List.length_append, be4_len]; omega
  · rw [hp]; exact .nil _ ht
theorem inst_len {k : Nat} {x : ND} (hk : k ≤ 90) (hx : NIn k x) : (wr (Rec.all x.g).nd).length ≤ 16777216 := by
  have h1 := Rec.len_all (hx.g (by omega))
  have h2 := ents_le (fun e he => (hx.all e he).2)
  have h3 := hx.alln
  have h4 := hx.state
  omega
theorem snap_h {n k : Nat} {x : ND} {D : DK} {m : Msg} (hn : 17000000 ≤ n) (hk : k ≤ 70) (hl : LD n x.g D) (hx : NIn k x) (hm : MIn k x.n m) (hb : x.g.base ≤ x.commit) : Hs (n + 3000) (snapN (x, D) m) (x.snapP m) := by
  unfold snapN ND.snapP
  dsimp only
  by_cases h1 : m.index > x.commit
  · rw [if_pos h1, if_pos h1]
    have hgd : x.g.down = false := hl.2.2.2.2.1
    obtain ⟨a1, a2, to, a3, a4⟩ := instD_h hgd hl.h (i := m.index) (t := m.logTerm) (s := m.state) (by omega)
    have hy := hx.inst hm.index hm.logTerm hm.state
    have hto : to.ok := by rw [a4]; exact hy.g (by omega)
    have htd : to.down = false := by rw [a4]; unfold LG.inst; split <;> exact hgd
    have hL := LD.swap hl hto htd (by rw [a4]; exact inst_len (x := { x with g := x.g.inst m.index m.logTerm m.state }) (by omega) hy) hn
    refine Hs.bind (y := { x with g := x.g.inst m.index m.logTerm m.state }) (n := n) ?_ (fun D' h => Hs.ret h rfl (by omega))
    unfold mustN
    rw [if_pos a1, a2, a3]
    exact ⟨rfl, rfl, by rw [← a4]; exact hL⟩
  · rw [if_neg h1, if_neg h1]; exact Hs.ret hl rfl (by omega)
theorem fed_h {n k : Nat} {x : ND} {D : DK} {m : Msg} (hn : 17000000 ≤ n) (hk : k ≤ 70) (hl : LD n x.g D) (hx : NIn k x) (hm : MIn k x.n m) (hb : x.g.base ≤ x.commit) : Hs (n + 3000) (fedN (x, D) m) (x.fedP m) := by
  unfold fedN ND.fedP
  dsimp only
  by_cases h1 : m.term < x.g.term
  · rw [if_pos h1, if_pos h1]; exact Hs.ret hl rfl (by omega)
  · rw [if_neg h1, if_neg h1]
    by_cases h2 : x.role = 2
    · rw [if_pos h2, if_pos h2]; exact Hs.ret hl rfl (by omega)
    · rw [if_neg h2, if_neg h2]
      by_cases h3 : m.kind = 2
      · rw [if_pos h3, if_pos h3]; exact add_h (x := x.follows m) hk hl (hx.follows m) hm
      · rw [if_neg h3, if_neg h3]; exact snap_h (x := x.follows m) hn hk hl (hx.follows m) hm hb
theorem heard_h {n : Nat} {x : ND} {D : DK} {m : Msg} (hl : LD n x.g D) : Hs n (heardN (x, D) m) (x.heardP m) := by
  unfold ND.heardP heardN
  dsimp only
  by_cases h1 : ¬ x.role = 2 ∨ ¬ m.term = x.g.term
  · rw [if_pos h1, if_pos h1]; exact ⟨rfl, rfl, hl⟩
  · rw [if_neg h1, if_neg h1]
    by_cases h2 : m.ok = false
    · rw [if_pos h2, if_pos h2]; exact ⟨rfl, rfl, hl⟩
    · rw [if_neg h2, if_neg h2]
      split
      · exact ⟨rfl, rfl, by show LD n (ND.count _).g _; rw [count_g]; exact hl⟩
      · exact ⟨rfl, rfl, by show LD n (ND.count _).g _; rw [count_g]; exact hl⟩
theorem kind_h {n k : Nat} {x : ND} {D : DK} {m : Msg} (hn : 17000000 ≤ n) (hk : k ≤ 70) (hl : LD n x.g D) (hx : NIn k x) (hm : MIn k x.n m) (hb : x.g.base ≤ x.commit) : Hs (n + 3000) (kindN (x, D) m) (x.kindP m) := by
  unfold kindN ND.kindP
  by_cases h0 : m.kind = 0
  · rw [if_pos h0, if_pos h0]; exact asked_h hk hl hx hm
  · rw [if_neg h0, if_neg h0]
    by_cases h1 : m.kind = 1
    · rw [if_pos h1, if_pos h1]; exact voted_h hk hl hx hm
    · rw [if_neg h1, if_neg h1]
      by_cases h2 : m.kind = 2 ∨ m.kind = 4
      · rw [if_pos h2, if_pos h2]; exact fed_h hn hk hl hx hm hb
      · rw [if_neg h2, if_neg h2]
        by_cases h3 : m.kind = 3
        · rw [if_pos h3, if_pos h3]
          obtain ⟨a, b, c⟩ := heard_h (m := m) hl
          exact ⟨a, b, LD.mono2 c (by omega)⟩
        · rw [if_neg h3, if_neg h3]; exact Hs.ret hl rfl (by omega)
theorem receive_h {n k : Nat} {x : ND} {D : DK} {m : Msg} (hn : 17000000 ≤ n) (hk : k ≤ 60) (hl : LD n x.g D) (hx : NIn k x) (hm : MIm k m) (hb : x.g.base ≤ x.commit) : Hs (n + 6000) (receiveN (x, D) m) (x.receiveP m) := by
  unfold receiveN ND.receiveP
  dsimp only
  have hmt := hm.term
  by_cases h1 : ¬ m.to = x.id ∨ m.frm = x.id ∨ m.frm < 0 ∨ m.frm ≥ x.n
  · rw [if_pos h1, if_pos h1]; exact Hs.ret hl rfl (by omega)
  · rw [if_neg h1, if_neg h1]
    have hf : 0 ≤ m.frm ∧ m.frm < x.n := by omega
    by_cases h2 : m.term > x.g.term
    · rw [if_pos h2, if_pos h2]
      refine Hs.bind (must_set (by omega) hl hx (t := m.term) (v := -1) (by omega) (by omega)) (fun D' h => ?_)
      exact kind_h (k := k + 1) (n := n + 3000) (x := ND.newTerm { x with g := { x.g with term := m.term, vote := -1 } }) (by omega) (by omega) h ((hx.set (t := m.term) (vt := -1) (by omega) (by omega)).newTerm) (hm.to hf (by omega)) hb
    · rw [if_neg h2, if_neg h2]
      obtain ⟨a, b, c⟩ := kind_h (m := m) hn (by omega) hl hx (hm.to hf (Nat.le_refl _)) hb
      exact ⟨a, b, LD.mono2 c (by omega)⟩
end V
end Go.Proofs.YtjdbigplednihaaGreat
set_option linter.unusedSimpArgs false
set_option linter.unusedVariables false
namespace Go.Proofs.YtjdbigplednihaaGreat
open Go.RowKit
namespace V
set_option maxHeartbeats 4000000
structure LIn (T I : Int) (A : Nat) (x : ND) : Prop where
  idn : x.id < x.n ∧ x.n ≤ 9
  down : x.down = false
  term : 0 ≤ x.g.term ∧ x.g.term ≤ T
  vote : -1 ≤ x.g.vote ∧ x.g.vote < 9
  base : 0 ≤ x.g.base
  baseT : 0 ≤ x.g.baseT ∧ x.g.baseT ≤ T
  last : x.g.last ≤ I
  state : x.g.state.length ≤ 1000000
  alln : x.g.all.length ≤ A
  all : ∀ e ∈ x.g.all, (0 ≤ e.1 ∧ e.1 ≤ T) ∧ e.2.length ≤ 100
  commit : x.g.base ≤ x.commit ∧ x.commit ≤ x.g.last
  patience : 0 ≤ x.patience ∧ x.patience ≤ 30
  peers : x.role = 2 → x.peers.length = x.n
  peer : ∀ p ∈ x.peers, (1 ≤ p.1 ∧ p.1 ≤ I + 1) ∧ (0 ≤ p.2 ∧ p.2 ≤ I)
  pl : x.role = 2 → ∀ p ∈ x.peers, p.2 ≤ x.g.last
  votes : x.votes.Nodup ∧ ∀ i ∈ x.votes, 0 ≤ i ∧ i < (x.n : Int)
theorem LIn.mono {T T' I I' : Int} {A A' : Nat} {x : ND} (h : LIn T I A x) (hT : T ≤ T') (hI : I ≤ I') (hA : A ≤ A') : LIn T' I' A' x :=
  ⟨h.idn, h.down, ⟨h.term.1, Int.le_trans h.term.2 hT⟩, h.vote, h.base, ⟨h.baseT.1, Int.le_trans h.baseT.2 hT⟩, Int.le_trans h.last hI, h.state, Nat.le_trans h.alln hA, fun e he => ⟨⟨(h.all e he).1.1, Int.le_trans (h.all e he).1.2 hT⟩, (h.all e he).2⟩, h.commit, h.patience, h.peers, fun p hp => ⟨⟨(h.peer p hp).1.1, by have := (h.peer p hp).1.2; omega⟩, ⟨(h.peer p hp).2.1, Int.le_trans (h.peer p hp).2.2 hI⟩⟩, h.pl, h.votes⟩
theorem LIn.nin {T I : Int} {A : Nat} {x : ND} (h : LIn T I A x) (k : Nat) (hT : T ≤ 2305843009213693952) (hI : I ≤ 100000000000000) (hA : A ≤ 80000) (ho : x.out.length ≤ 20 * k) : NIn k x :=
  ⟨h.idn, ⟨h.term.1, by have := h.term.2; omega⟩, h.vote, ⟨h.base, by have := h.last; have := h.commit; omega⟩, ⟨h.baseT.1, by have := h.baseT.2; omega⟩, h.state, by have := h.alln; omega, fun e he => ⟨⟨(h.all e he).1.1, by have := (h.all e he).1.2; omega⟩, (h.all e he).2⟩, by have := h.base; have := h.last; have := h.commit; omega, by have := h.patience; omega, h.peers, fun p hp => by have := h.peer p hp; omega, h.votes, ho⟩
structure TR (x y : ND) : Prop where
  id : y.id = x.id
  n : y.n = x.n
  com : x.commit ≤ y.commit
  base : x.g.base ≤ y.g.base
  at_ : ∀ i, y.g.base < i → i ≤ x.commit → y.g.at i = x.g.at i
  vr : x.g.term < y.g.term ∨ (x.g.term = y.g.term ∧ (x.g.vote = -1 ∨ x.g.vote = y.g.vote))
theorem TR.same {x y : ND} (hg : y.g = x.g) (h1 : y.id = x.id) (h2 : y.n = x.n) (h3 : x.commit ≤ y.commit) : TR x y :=
  ⟨h1, h2, h3, by rw [hg]; exact Int.le_refl _, fun i _ _ => by rw [hg], .inr ⟨by rw [hg], .inr (by rw [hg])⟩⟩
theorem TR.rfl {x : ND} : TR x x := TR.same (Eq.refl _) (Eq.refl _) (Eq.refl _) (Int.le_refl _)
theorem TR.trans {x y z : ND} (h : TR x y) (k : TR y z) : TR x z :=
  ⟨k.id.trans h.id, k.n.trans h.n, Int.le_trans h.com k.com, Int.le_trans h.base k.base, fun i hi hc => by
    have h1 := k.base
    have h2 := h.com
    rw [k.at_ i hi (by omega), h.at_ i (by omega) hc], by
    have h1 := h.vr
    have h2 := k.vr
    omega⟩
structure LT (T I : Int) (A : Nat) (x y : ND) : Prop where
  inn : LIn T I A y
  tr : TR x y
theorem LT.rfl {T I : Int} {A : Nat} {x : ND} (h : LIn T I A x) : LT T I A x x := ⟨h, TR.rfl⟩
theorem LT.trans {T I T' I' : Int} {A A' : Nat} {x y z : ND} (h : LT T I A x y) (k : LT T' I' A' y z) : LT T' I' A' x z := ⟨k.inn, h.tr.trans k.tr⟩
theorem LT.mono {T T' I I' : Int} {A A' : Nat} {x y : ND} (h : LT T I A x y) (hT : T ≤ T') (hI : I ≤ I') (hA : A ≤ A') : LT T' I' A' x y := ⟨h.inn.mono hT hI hA, h.tr⟩
theorem LIn.sends {T I : Int} {A : Nat} {x : ND} (h : LIn T I A x) (l : List Msg) : LIn T I A { x with out := l } :=
  ⟨h.idn, h.down, h.term, h.vote, h.base, h.baseT, h.last, h.state, h.alln, h.all, h.commit, h.patience, h.peers, h.peer, h.pl, h.votes⟩
theorem LT.sent {T I : Int} {A : Nat} {x y : ND} (h : LT T I A x y) (l : List Msg) : LT T I A x { y with out := l } :=
  ⟨h.inn.sends l, h.tr.trans (TR.same (Eq.refl _) (Eq.refl _) (Eq.refl _) (Int.le_refl _))⟩
theorem LT.out {T I : Int} {A : Nat} {x y : ND} {l : List Msg} (h : LT T I A { x with out := l } y) : LT T I A x y := ⟨h.inn, TR.trans (y := { x with out := l }) (TR.same (Eq.refl _) (Eq.refl _) (Eq.refl _) (Int.le_refl _)) h.tr⟩
theorem play_last {g : LG} {i : Int} {m : List Ent} (hi : g.base ≤ i ∧ i ≤ g.last) : (g.play (.add i m)).last = i + m.length := by
  unfold LG.play LG.last at *
  simp; omega
theorem at_in {g : LG} {i : Int} (h : g.base < i ∧ i ≤ g.last) : g.at i = g.all[(i - g.base - 1).toNat]? := by unfold LG.at; rw [if_pos h]
theorem at_out {g : LG} {i : Int} (h : ¬ (g.base < i ∧ i ≤ g.last)) : g.at i = none := by unfold LG.at; rw [if_neg h]
theorem play_at {g : LG} {i j : Int} {m : List Ent} (hi : g.base ≤ i ∧ i ≤ g.last) (hj : j ≤ i) : (g.play (.add i m)).at j = g.at j := by
  have h1 := play_last (m := m) hi
  have hb : (g.play (.add i m)).base = g.base := rfl
  by_cases h2 : g.base < j
  · rw [at_in (g := g) (by omega), at_in (by omega), hb]
    show (g.all.take (i - g.base).toNat ++ m)[_]? = _
    unfold LG.last at hi
    rw [List.getElem?_append_left (by simp; omega), List.getElem?_take_of_lt (by omega)]
  · rw [at_out (g := g) (by omega), at_out (by omega)]
theorem LIn.add {T I : Int} {A : Nat} {x : ND} (h : LIn T I A x) {i : Int} {m : List Ent} (hi : x.commit ≤ i ∧ i ≤ x.g.last) (hr : x.role = 2 → i = x.g.last) (hm : ∀ e ∈ m, (0 ≤ e.1 ∧ e.1 ≤ T) ∧ e.2.length ≤ 100) : LT T (I + m.length) (A + m.length) x { x with g := x.g.play (.add i m) } := by
  have hc := h.commit
  have hI := h.last
  have hA := h.alln
  have hl := play_last (g := x.g) (i := i) (m := m) (by omega)
  refine ⟨⟨h.idn, h.down, h.term, h.vote, h.base, h.baseT, by show (x.g.play (.add i m)).last ≤ _; rw [hl]; omega, h.state, ?_, ?_, ⟨hc.1, by show _ ≤ (x.g.play (.add i m)).last; rw [hl]; show x.commit ≤ _; omega⟩, h.patience, h.peers, fun p hp => by have := h.peer p hp; omega, fun hr2 p hp => ?_, h.votes⟩, ?_⟩
  · show (x.g.all.take _ ++ m).length ≤ _
    simp; omega
  · intro e he
    rcases List.mem_append.1 (show e ∈ x.g.all.take _ ++ m from he) with he | he
    · exact h.all e (List.mem_of_mem_take he)
    · exact hm e he
  · show _ ≤ (x.g.play (.add i m)).last
    have h1 := h.pl hr2 p hp
    have h2 := hr hr2
    rw [hl]; omega
  · exact ⟨Eq.refl _, Eq.refl _, Int.le_refl _, Int.le_refl _, fun j _ hj => play_at (by omega) (by omega), .inr ⟨Eq.refl _, .inr (Eq.refl _)⟩⟩
theorem LIn.set {T I : Int} {A : Nat} {x : ND} (h : LIn T I A x) {t v : Int} (ht : 0 ≤ t ∧ t ≤ T) (hv : -1 ≤ v ∧ v < 9) (hvr : x.g.term < t ∨ (x.g.term = t ∧ (x.g.vote = -1 ∨ x.g.vote = v))) : LT T I A x { x with g := { x.g with term := t, vote := v } } :=
  ⟨⟨h.idn, h.down, ht, hv, h.base, h.baseT, h.last, h.state, h.alln, h.all, h.commit, h.patience, h.peers, h.peer, h.pl, h.votes⟩, ⟨Eq.refl _, Eq.refl _, Int.le_refl _, Int.le_refl _, fun _ _ _ => Eq.refl _, hvr⟩⟩
theorem mid_last {x : ND} (hid : x.id < x.n) (h : ∀ p ∈ x.peers, p.2 ≤ x.g.last) (h0 : 0 ≤ x.g.last) : x.mid ≤ x.g.last := by
  have hm := mid_mem hid
  unfold ND.reach at hm
  rcases List.mem_cons.1 hm with hm | hm
  · omega
  · obtain ⟨i, _, hi⟩ := List.mem_map.1 hm
    rw [← hi]
    unfold ND.mat
    by_cases h1 : i < x.peers.length
    · exact h _ (by rw [List.getD_eq_getElem?_getD, List.getElem?_eq_getElem h1]; simp)
    · rw [List.getD_eq_getElem?_getD, List.getElem?_eq_none (by omega)]; exact h0
theorem LIn.count {T I : Int} {A : Nat} {x : ND} (h : LIn T I A x) (hr : x.role = 2) : LT T I A x x.count := by
  have h0 := h.base
  have hc := h.commit
  have hm := mid_last h.idn.1 (h.pl hr) (by omega)
  unfold ND.count
  split
  · rename_i h1
    exact ⟨⟨h.idn, h.down, h.term, h.vote, h.base, h.baseT, h.last, h.state, h.alln, h.all, ⟨by show x.g.base ≤ x.mid; omega, hm⟩, h.patience, h.peers, h.peer, h.pl, h.votes⟩, TR.same (Eq.refl _) (Eq.refl _) (Eq.refl _) (by show x.commit ≤ x.mid; omega)⟩
  · exact LT.rfl h
theorem LIn.entryP {T I : Int} {A : Nat} {x : ND} {cmd : Bs} (h : LIn T I A x) (hr : x.role = 2) (hc : cmd.length ≤ 100) : LT T (I + 1) (A + 1) x (x.entryP cmd) := by
  have h1 := h.add (i := x.g.last) (m := [(x.g.term, cmd)]) ⟨h.commit.2, Int.le_refl _⟩ (fun _ => Eq.refl _) (fun e he => by simp at he; subst he; exact ⟨h.term, hc⟩)
  have h2 := h1.trans (LIn.count h1.inn hr)
  unfold ND.entryP
  rw [feedAll_eq]
  exact h2.sent _
theorem LIn.wins {T I : Int} {A : Nat} {x : ND} (h : LIn T I A x) : LIn T I A x.wins := by
  have h0 := h.base
  have hc := h.commit
  have hl := h.last
  refine ⟨h.idn, h.down, h.term, h.vote, h.base, h.baseT, h.last, h.state, h.alln, h.all, h.commit, ⟨by show (0 : Int) ≤ 0; omega, by show (0 : Int) ≤ 30; omega⟩, fun _ => by simp [ND.wins], ?_, ?_, h.votes⟩
  · intro p hp
    obtain ⟨_, rfl⟩ := List.mem_replicate.1 (show p ∈ List.replicate x.n (x.g.last + 1, 0) from hp)
    dsimp only; omega
  · intro _ p hp
    obtain ⟨_, rfl⟩ := List.mem_replicate.1 (show p ∈ List.replicate x.n (x.g.last + 1, 0) from hp)
    show 0 ≤ x.g.last; omega
theorem LIn.winP {T I : Int} {A : Nat} {x : ND} (h : LIn T I A x) : LT T (I + 1) (A + 1) x x.winP := by
  have h1 := LIn.entryP (cmd := []) h.wins (Eq.refl _) (by simp)
  exact ⟨h1.inn, TR.trans (TR.same (y := x.wins) (Eq.refl _) (Eq.refl _) (Eq.refl _) (Int.le_refl _)) h1.tr⟩
theorem LIn.stands {T I : Int} {A : Nat} {x : ND} (h : LIn T I A x) : LIn T I A x.stands := by
  have hid := h.idn
  refine ⟨h.idn, h.down, h.term, h.vote, h.base, h.baseT, h.last, h.state, h.alln, h.all, h.commit, ⟨by show (0 : Int) ≤ 0; omega, by show (0 : Int) ≤ 30; omega⟩, fun hr => absurd (show (1 : Int) = 2 from hr) (by decide), h.peer, fun hr => absurd (show (1 : Int) = 2 from hr) (by decide), by simp [ND.stands], fun i hi => ?_⟩
  have : i = (x.id : Int) := by simpa [ND.stands] using hi
  show 0 ≤ i ∧ i < (x.n : Int)
  omega
theorem LIn.standP {T I : Int} {A : Nat} {x : ND} (h : LIn T I A x) : LT (T + 1) (I + 1) (A + 1) x x.standP := by
  have hid := h.idn
  have ht := h.term
  have h1 := (h.mono (show T ≤ T + 1 by omega) (Int.le_refl _) (Nat.le_refl _)).set (t := x.g.term + 1) (v := x.id) (by omega) (by omega) (.inl (by omega))
  have h2 := h1.inn.stands
  have h3 : TR x (ND.stands { x with g := { x.g with term := x.g.term + 1, vote := x.id } }) := h1.tr.trans (TR.same (Eq.refl _) (Eq.refl _) (Eq.refl _) (Int.le_refl _))
  unfold ND.standP
  by_cases hn : x.n = 1
  · rw [if_pos hn]
    have h4 := LIn.winP h2
    exact ⟨h4.inn, h3.trans h4.tr⟩
  · rw [if_neg hn]
    unfold ND.askAll
    rw [asks_eq]
    exact LT.mono (LT.sent ⟨h2, h3⟩ _) (Int.le_refl _) (by omega) (by omega)
theorem LIn.pat {T I : Int} {A : Nat} {x : ND} (h : LIn T I A x) {p : Int} (hp : 0 ≤ p ∧ p ≤ 30) : LT T I A x { x with patience := p } :=
  ⟨⟨h.idn, h.down, h.term, h.vote, h.base, h.baseT, h.last, h.state, h.alln, h.all, h.commit, hp, h.peers, h.peer, h.pl, h.votes⟩, TR.same (Eq.refl _) (Eq.refl _) (Eq.refl _) (Int.le_refl _)⟩
theorem limit_b (i : Nat) (t : Int) : 10 ≤ limitI i t ∧ limitI i t ≤ 20 := by
  unfold limitI; omega
theorem LIn.tickP {T I : Int} {A : Nat} {x : ND} (h : LIn T I A x) : LT (T + 1) (I + 1) (A + 1) x x.tickP := by
  have hp := h.patience
  have hlm := limit_b x.id x.g.term
  unfold ND.tickP
  by_cases h1 : x.role = 2
  · rw [if_pos h1]
    by_cases h2 : x.patience + 1 ≥ 3
    · rw [if_pos h2, feedAll_eq]
      exact LT.mono ((h.pat (by omega)).sent _) (by omega) (by omega) (by omega)
    · rw [if_neg h2]
      exact LT.mono (h.pat (by omega)) (by omega) (by omega) (by omega)
  · rw [if_neg h1]
    by_cases h2 : x.patience + 1 ≥ limitI x.id x.g.term
    · rw [if_pos h2]
      have h3 := h.pat (p := 0) (by omega)
      have h4 := LIn.standP h3.inn
      have e : ND.standP { x with patience := x.patience + 1 } = ND.standP { x with patience := 0 } := Eq.refl _
      rw [e]
      exact h3.trans h4
    · rw [if_neg h2]
      exact LT.mono (h.pat (by omega)) (by omega) (by omega) (by omega)
structure MLn (T I : Int) (m : Msg) : Prop where
  term : 0 ≤ m.term ∧ m.term ≤ T
  index : 0 ≤ m.index ∧ m.index ≤ I
  logTerm : 0 ≤ m.logTerm ∧ m.logTerm ≤ T
  commit : 0 ≤ m.commit
  es : m.es.length ≤ 20 ∧ ∀ e ∈ m.es, (0 ≤ e.1 ∧ e.1 ≤ T) ∧ e.2.length ≤ 100
  state : m.state.length ≤ 1000000
theorem LIn.answer {T I : Int} {A : Nat} {x y : ND} (h : LT T I A x y) (m : Msg) (ok : Bool) (i : Int) : LT T I A x (y.answer m ok i) := h.sent _
theorem LIn.askedP {T I : Int} {A : Nat} {x : ND} {m : Msg} (h : LIn T I A x) (hm : 0 ≤ m.frm ∧ m.frm < x.n) : LT T I A x (x.askedP m) := by
  have hid := h.idn
  unfold ND.askedP
  by_cases h1 : x.grants m = true
  · rw [if_pos h1]
    have h1' := h1
    unfold ND.grants at h1'
    simp only [Bool.and_eq_true, Bool.or_eq_true, decide_eq_true_eq] at h1'
    obtain ⟨⟨⟨_, _⟩, hv⟩, _⟩ := h1'
    have h2 := h.set (t := x.g.term) (v := m.frm) h.term (by omega) (.inr ⟨Eq.refl _, hv⟩)
    have h3 := h2.trans (h2.inn.pat (p := 0) (by omega))
    exact h3.sent _
  · rw [if_neg h1]
    exact (LT.rfl h).sent _
theorem LIn.vote1 {T I : Int} {A : Nat} {x : ND} (h : LIn T I A x) {i : Int} (hi : 0 ≤ i ∧ i < (x.n : Int)) : LIn T I A { x with votes := setAdd x.votes i } :=
  ⟨h.idn, h.down, h.term, h.vote, h.base, h.baseT, h.last, h.state, h.alln, h.all, h.commit, h.patience, h.peers, h.peer, h.pl, setAdd_ok h.votes.1 i, fun j hj => by rcases setAdd_mem hj with hj | hj; exact h.votes.2 j hj; subst hj; exact hi⟩
theorem LIn.votedP {T I : Int} {A : Nat} {x : ND} {m : Msg} (h : LIn T I A x) (hm : 0 ≤ m.frm ∧ m.frm < x.n) : LT T (I + 1) (A + 1) x (x.votedP m) := by
  unfold ND.votedP
  have h1 : LT T I A x { x with votes := setAdd x.votes m.frm } := ⟨h.vote1 hm, TR.same (Eq.refl _) (Eq.refl _) (Eq.refl _) (Int.le_refl _)⟩
  split
  · exact LT.mono (LT.rfl h) (by omega) (by omega) (by omega)
  · split
    · have h2 := LIn.winP h1.inn
      exact h1.trans h2
    · exact LT.mono h1 (by omega) (by omega) (by omega)
theorem LIn.commits {T I : Int} {A : Nat} {x y : ND} (h : LT T I A x y) (m : Msg) {last : Int} (hl : last ≤ y.g.last) : LT T I A x (y.commits m last) := by
  have hc := h.inn.commit
  refine ⟨⟨h.inn.idn, h.inn.down, h.inn.term, h.inn.vote, h.inn.base, h.inn.baseT, h.inn.last, h.inn.state, h.inn.alln, h.inn.all, ⟨?_, ?_⟩, h.inn.patience, h.inn.peers, h.inn.peer, h.inn.pl, h.inn.votes⟩, h.tr.trans (TR.same (Eq.refl _) (Eq.refl _) (Eq.refl _) ?_)⟩
  · show y.g.base ≤ max y.commit (min m.commit last); omega
  · show max y.commit (min m.commit last) ≤ y.g.last; omega
  · show y.commit ≤ max y.commit (min m.commit last); omega
theorem fits_none {g : LG} : ∀ {l : List Ent} {i : Int}, ND.fits g l i = none → l = [] ∨ i + l.length - 1 ≤ g.last
  | [], _, _ => .inl (Eq.refl _)
  | e :: l, i, h => by
    by_cases h1 : (g.at i).map (·.1) = some e.1
    · rw [fits_yes h1] at h
      right
      cases h2 : g.at i with
      | none => rw [h2] at h1; cases h1
      | some e2 =>
        have h3 := at_last h2
        rcases fits_none h with h4 | h4
        · subst h4; simp; omega
        · simp; omega
    · rw [fits_no h1] at h; cases h
theorem LIn.restP {T I : Int} {A : Nat} {x : ND} {m : Msg} (h : LIn T I A x) (hr : ¬ x.role = 2) (hm : MLn T I m) (hc : x.g.base ≤ (x.cutM m).1 ∧ (x.cutM m).1 ≤ x.g.last) : LT T (I + 20) (A + 20) x (x.restP m (x.cutM m)) := by
  have hb3 : (x.cutM m).2.length ≤ 20 ∧ ∀ e ∈ (x.cutM m).2, (0 ≤ e.1 ∧ e.1 ≤ T) ∧ e.2.length ≤ 100 := by
    have := hm.es
    unfold ND.cutM
    split
    · exact ⟨by simp; omega, fun e he => this.2 e (List.mem_of_mem_drop he)⟩
    · exact this
  unfold ND.restP
  cases hfi : ND.fits x.g (x.cutM m).2 ((x.cutM m).1 + 1) with
  | none =>
    have hl : (x.cutM m).1 + (x.cutM m).2.length ≤ x.g.last := by
      rcases fits_none hfi with h1 | h1
      · rw [h1]; simp; omega
      · omega
    exact LT.mono ((LIn.commits (LT.rfl h) m hl).sent _) (by omega) (by omega) (by omega)
  | some p =>
    obtain ⟨i, l⟩ := p
    obtain ⟨a1, ⟨c, hc1, hc2⟩, a3⟩ := fits_at hfi
    dsimp only
    by_cases h1 : i ≤ x.commit
    · rw [if_pos h1]; exact LT.mono (LT.rfl h) (by omega) (by omega) (by omega)
    · rw [if_neg h1]
      have hi : x.commit ≤ i - 1 ∧ i - 1 ≤ x.g.last := by
        rcases a3 with a3 | ⟨e, a3⟩
        · omega
        · have := at_last a3; omega
      have hll : l.length ≤ 20 := by rw [hc1]; simp; omega
      have h2 := h.add (i := i - 1) (m := l) hi (fun hr2 => absurd hr2 hr) (fun e he => hb3.2 e (by rw [hc1] at he; exact List.mem_of_mem_drop he))
      have hpl := play_last (g := x.g) (i := i - 1) (m := l) (by have := h.commit; omega)
      have hle : (x.cutM m).1 + (x.cutM m).2.length ≤ (x.g.play (.add (i - 1) l)).last := by
        rw [hpl, hc1]
        have hcl : c < (x.cutM m).2.length := by
          by_cases hcl : c < (x.cutM m).2.length
          · exact hcl
          · have : l = [] := by rw [hc1]; exact List.drop_eq_nil_of_le (by omega)
            exfalso
            have key : ∀ {l : List Ent} {i j : Int} {l2 : List Ent}, ND.fits x.g l i = some (j, l2) → l2 ≠ [] := by
              intro l
              induction l with
              | nil => intro i j l2 h; cases h
              | cons e l ih =>
                intro i j l2 h
                by_cases h1 : (x.g.at i).map (·.1) = some e.1
                · rw [fits_yes h1] at h; exact ih h
                · rw [fits_no h1] at h; cases h; simp
            exact key hfi this
        simp; omega
      exact LT.mono ((LIn.commits h2 m (last := (x.cutM m).1 + (x.cutM m).2.length) hle).sent _) (by omega) (by omega) (by omega)
theorem LIn.addP {T I : Int} {A : Nat} {x : ND} {m : Msg} (h : LIn T I A x) (hr : ¬ x.role = 2) (hm : MLn T I m) : LT T (I + 20) (A + 20) x (x.addP m) := by
  unfold ND.addP
  by_cases h1 : m.index < x.g.base ∧ (m.es.length : Int) < x.g.base - m.index
  · rw [if_pos h1]; exact LT.mono ((LT.rfl h).sent _) (by omega) (by omega) (by omega)
  · by_cases h2 : ¬ m.index < x.g.base ∧ ¬ x.g.termAt m.index = some m.logTerm
    · rw [if_neg h1, if_pos h2]; exact LT.mono ((LT.rfl h).sent _) (by omega) (by omega) (by omega)
    · rw [if_neg h1, if_neg h2]
      refine h.restP hr hm ?_
      unfold ND.cutM
      by_cases h3 : m.index < x.g.base
      · rw [if_pos h3]; have := h.commit; dsimp only; omega
      · rw [if_neg h3]
        have h4 : x.g.termAt m.index = some m.logTerm := by
          by_cases h4 : x.g.termAt m.index = some m.logTerm
          · exact h4
          · exact absurd ⟨h3, h4⟩ h2
        exact termAt_last h4
theorem inst_last {g : LG} {i t : Int} {s : Bs} (hi : g.base ≤ i) : (g.inst i t s).base = i ∧ i ≤ (g.inst i t s).last ∧ (g.inst i t s).last ≤ max i g.last ∧ (g.inst i t s).all.length ≤ g.all.length ∧ (∀ e ∈ (g.inst i t s).all, e ∈ g.all) ∧ (g.inst i t s).term = g.term ∧ (g.inst i t s).vote = g.vote ∧ (g.inst i t s).state = s := by
  unfold LG.inst
  split
  · rename_i h
    have h1 := termAt_last h
    unfold LG.comp LG.last at *
    dsimp only
    exact ⟨rfl, by omega, by simp; omega, by simp, fun e he => List.mem_of_mem_drop he, rfl, rfl, rfl⟩
  · unfold LG.base0 LG.last
    dsimp only
    exact ⟨rfl, by simp, by simp; omega, by simp, fun e he => by simp at he, rfl, rfl, rfl⟩
theorem inst_baseT {g : LG} {i t T : Int} {s : Bs} (h0 : 0 ≤ T) (hb : 0 ≤ g.baseT ∧ g.baseT ≤ T) (ha : ∀ e ∈ g.all, (0 ≤ e.1 ∧ e.1 ≤ T) ∧ e.2.length ≤ 100) (ht : 0 ≤ t ∧ t ≤ T) : 0 ≤ (g.inst i t s).baseT ∧ (g.inst i t s).baseT ≤ T := by
  unfold LG.inst
  split
  · rename_i h
    unfold LG.comp
    dsimp only
    rw [h]; exact ht
  · exact ht
theorem LIn.snapP {T I : Int} {A : Nat} {x : ND} {m : Msg} (h : LIn T I A x) (hr : ¬ x.role = 2) (hm : MLn T I m) : LT T I A x (x.snapP m) := by
  have hb := h.base
  have hcm := h.commit
  have hl := h.last
  have hal := h.alln
  have hix := hm.index
  have ht := h.term
  unfold ND.snapP
  by_cases h1 : m.index > x.commit
  · rw [if_pos h1]
    obtain ⟨e1, e2, e3, e4, e5, e6, e7, e8⟩ := inst_last (g := x.g) (i := m.index) (t := m.logTerm) (s := m.state) (by omega)
    refine LT.sent (x := x) (y := { x with g := x.g.inst m.index m.logTerm m.state, commit := m.index }) ⟨⟨h.idn, h.down, by rw [e6]; exact h.term, by rw [e7]; exact h.vote, by rw [e1]; omega, inst_baseT (by omega) h.baseT h.all hm.logTerm, by show (x.g.inst m.index m.logTerm m.state).last ≤ I; omega, by rw [e8]; exact hm.state, Nat.le_trans e4 h.alln, fun e he => h.all e (e5 e he), ⟨by show (x.g.inst m.index m.logTerm m.state).base ≤ m.index; omega, e2⟩, h.patience, h.peers, h.peer, fun hr2 => absurd hr2 hr, h.votes⟩, ⟨Eq.refl _, Eq.refl _, by show x.commit ≤ m.index; omega, by rw [e1]; omega, fun i h2 h3 => by rw [e1] at h2; omega, .inr ⟨e6.symm, .inr e7.symm⟩⟩⟩ _
  · rw [if_neg h1]
    exact (LT.rfl h).sent _
theorem LIn.follows {T I : Int} {A : Nat} {x : ND} {m : Msg} (h : LIn T I A x) : LT T I A x (x.follows m) :=
  ⟨⟨h.idn, h.down, h.term, h.vote, h.base, h.baseT, h.last, h.state, h.alln, h.all, h.commit, ⟨by show (0 : Int) ≤ 0; omega, by show (0 : Int) ≤ 30; omega⟩, fun hr => absurd (show (0 : Int) = 2 from hr) (by decide), h.peer, fun hr => absurd (show (0 : Int) = 2 from hr) (by decide), h.votes⟩, TR.same (Eq.refl _) (Eq.refl _) (Eq.refl _) (Int.le_refl _)⟩
theorem LIn.fedP {T I : Int} {A : Nat} {x : ND} {m : Msg} (h : LIn T I A x) (hm : MLn T I m) : LT T (I + 20) (A + 20) x (x.fedP m) := by
  have hf := LIn.follows (m := m) h
  have h0 : ¬ (x.follows m).role = 2 := fun hr => absurd (show (0 : Int) = 2 from hr) (by decide)
  unfold ND.fedP
  split
  · exact LT.mono ((LT.rfl h).sent _) (by omega) (by omega) (by omega)
  · split
    · exact LT.mono (LT.rfl h) (by omega) (by omega) (by omega)
    · split
      · exact hf.trans (hf.inn.addP h0 hm)
      · exact LT.mono (hf.trans (hf.inn.snapP h0 hm)) (by omega) (by omega) (by omega)
theorem LIn.setPeer {T I : Int} {A : Nat} {x : ND} (h : LIn T I A x) (to : Nat) {p : Int × Int} (hp : (1 ≤ p.1 ∧ p.1 ≤ I + 1) ∧ (0 ≤ p.2 ∧ p.2 ≤ x.g.last)) : LT T I A x (x.setPeer to p) := by
  have hl := h.last
  refine ⟨⟨h.idn, h.down, h.term, h.vote, h.base, h.baseT, h.last, h.state, h.alln, h.all, h.commit, h.patience, fun hr => by have := h.peers hr; unfold ND.setPeer; simpa using this, fun q hq => ?_, fun hr q hq => ?_, h.votes⟩, TR.same (Eq.refl _) (Eq.refl _) (Eq.refl _) (Int.le_refl _)⟩
  · rcases List.mem_or_eq_of_mem_set (show q ∈ x.peers.set to p from hq) with hq | rfl
    · exact h.peer q hq
    · omega
  · rcases List.mem_or_eq_of_mem_set (show q ∈ x.peers.set to p from hq) with hq | rfl
    · exact h.pl hr q hq
    · exact hp.2.2
theorem LIn.peerb {T I : Int} {A : Nat} {x : ND} (h : LIn T I A x) (hr : x.role = 2) (i : Nat) : (0 ≤ x.nxt i ∧ x.nxt i ≤ I + 1) ∧ (0 ≤ x.mat i ∧ x.mat i ≤ x.g.last) := by
  have h0 := h.base
  have hc := h.commit
  have hl := h.last
  unfold ND.nxt ND.mat
  by_cases h1 : i < x.peers.length
  · have hm : x.peers.getD i (0, 0) ∈ x.peers := by rw [List.getD_eq_getElem?_getD, List.getElem?_eq_getElem h1]; simp
    have h2 := h.peer _ hm
    have h3 := h.pl hr _ hm
    omega
  · rw [List.getD_eq_getElem?_getD, List.getElem?_eq_none (by omega)]
    simp; omega
theorem LIn.heardP {T I : Int} {A : Nat} {x : ND} {m : Msg} (h : LIn T I A x) (hm : MLn T I m) : LT T I A x (x.heardP m) := by
  have hix := hm.index
  have h0 := h.base
  have hcm := h.commit
  have hl := h.last
  unfold ND.heardP heardN
  dsimp only
  by_cases h1 : ¬ x.role = 2 ∨ ¬ m.term = x.g.term
  · rw [if_pos h1]; exact LT.rfl h
  · have hr : x.role = 2 := by
      by_cases hr : x.role = 2
      · exact hr
      · exact absurd (.inl hr) h1
    have hp := h.peerb hr m.frm.toNat
    rw [if_neg h1]
    by_cases h2 : m.ok = false
    · rw [if_pos h2]
      exact (h.setPeer m.frm.toNat (p := (max (min (x.nxt m.frm.toNat - 1) (m.index + 1)) (x.mat m.frm.toNat + 1), x.mat m.frm.toNat)) (by dsimp only; omega)).sent _
    · rw [if_neg h2]
      have h3 := h.setPeer m.frm.toNat (p := (max (x.mat m.frm.toNat) (min m.index x.g.last) + 1, max (x.mat m.frm.toNat) (min m.index x.g.last))) (by dsimp only; omega)
      have h4 := h3.trans (LIn.count h3.inn hr)
      split
      · exact h4.sent _
      · exact h4
theorem LIn.kindP {T I : Int} {A : Nat} {x : ND} {m : Msg} (h : LIn T I A x) (hm : MLn T I m) (hf : 0 ≤ m.frm ∧ m.frm < x.n) : LT T (I + 20) (A + 20) x (x.kindP m) := by
  unfold ND.kindP
  split
  · exact LT.mono (h.askedP hf) (by omega) (by omega) (by omega)
  · split
    · exact LT.mono (h.votedP hf) (by omega) (by omega) (by omega)
    · split
      · exact h.fedP hm
      · split
        · exact LT.mono (h.heardP hm) (by omega) (by omega) (by omega)
        · exact LT.mono (LT.rfl h) (by omega) (by omega) (by omega)
theorem LIn.newTerm {T I : Int} {A : Nat} {x : ND} (h : LIn T I A x) : LIn T I A x.newTerm :=
  ⟨h.idn, h.down, h.term, h.vote, h.base, h.baseT, h.last, h.state, h.alln, h.all, h.commit, h.patience, fun hr => absurd (show (0 : Int) = 2 from hr) (by decide), h.peer, fun hr => absurd (show (0 : Int) = 2 from hr) (by decide), h.votes⟩
theorem LIn.receiveP {T I : Int} {A : Nat} {x : ND} {m : Msg} (h : LIn T I A x) (hm : MLn T I m) : LT T (I + 20) (A + 20) x (x.receiveP m) := by
  have ht := h.term
  unfold ND.receiveP
  by_cases h1 : ¬ m.to = x.id ∨ m.frm = x.id ∨ m.frm < 0 ∨ m.frm ≥ x.n
  · rw [if_pos h1]; exact LT.mono (LT.rfl h) (by omega) (by omega) (by omega)
  · rw [if_neg h1]
    have hf : 0 ≤ m.frm ∧ m.frm < x.n := by omega
    by_cases h2 : m.term > x.g.term
    · rw [if_pos h2]
      have h3 := h.set (t := m.term) (v := -1) hm.term (by omega) (.inl (by omega))
      have h4 : LT T I A x (ND.newTerm { x with g := { x.g with term := m.term, vote := -1 } }) := ⟨h3.inn.newTerm, h3.tr.trans (TR.same (Eq.refl _) (Eq.refl _) (Eq.refl _) (Int.le_refl _))⟩
      exact h4.trans (h4.inn.kindP hm hf)
    · rw [if_neg h2]; exact h.kindP hm hf
theorem comp_at {g : LG} {i j : Int} {s : Bs} (hi : g.base ≤ i ∧ i ≤ g.last) (hj : i < j) : (g.comp i s).at j = g.at j := by
  have hl : (g.comp i s).last = g.last := by unfold LG.comp LG.last at *; simp; omega
  have hb : (g.comp i s).base = i := rfl
  by_cases h1 : j ≤ g.last
  · rw [at_in (g := g) (by omega), at_in (by omega), hb]
    show (g.all.drop (i - g.base).toNat)[_]? = _
    rw [List.getElem?_drop]
    congr 1; omega
  · rw [at_out (g := g) (by omega), at_out (by omega)]
theorem LIn.comp {T I : Int} {A : Nat} {x : ND} (h : LIn T I A x) {i : Int} {s : Bs} (hi : x.g.base ≤ i ∧ i ≤ x.commit) (hs : s.length ≤ 1000000) : LT T I A x { x with g := x.g.comp i s } := by
  have hb := h.base
  have hc := h.commit
  have hl : (x.g.comp i s).last = x.g.last := by unfold LG.comp LG.last at *; simp; omega
  have ht := h.term
  refine ⟨⟨h.idn, h.down, h.term, h.vote, by show 0 ≤ i; omega, ?_, by rw [hl]; exact h.last, hs, by have := h.alln; show (x.g.all.drop _).length ≤ A; simp; omega, fun e he => h.all e (List.mem_of_mem_drop he), ⟨by show i ≤ x.commit; omega, by rw [hl]; exact h.commit.2⟩, h.patience, h.peers, h.peer, fun hr p hp => by rw [hl]; exact h.pl hr p hp, h.votes⟩, ⟨Eq.refl _, Eq.refl _, Int.le_refl _, by show x.g.base ≤ i; omega, fun j hj hjc => comp_at (by omega) hj, .inr ⟨Eq.refl _, .inr (Eq.refl _)⟩⟩⟩
  show 0 ≤ (x.g.termAt i).getD 0 ∧ (x.g.termAt i).getD 0 ≤ T
  unfold LG.termAt
  split
  · exact h.baseT
  · cases h1 : x.g.at i with
    | none => simp; omega
    | some e => exact (h.all e (LG.at_mem h1)).1
theorem LIn.start {id n : Nat} {g : LG} {T I : Int} {A : Nat} (hid : id < n ∧ n ≤ 9) (hT : 0 ≤ g.term ∧ g.term ≤ T) (hv : -1 ≤ g.vote ∧ g.vote < 9) (hb : 0 ≤ g.base) (hbT : 0 ≤ g.baseT ∧ g.baseT ≤ T) (hl : g.last ≤ I) (hs : g.state.length ≤ 1000000) (hA : g.all.length ≤ A) (ha : ∀ e ∈ g.all, (0 ≤ e.1 ∧ e.1 ≤ T) ∧ e.2.length ≤ 100) : LIn T I A (ND.start id n g) :=
  ⟨hid, rfl, hT, hv, hb, hbT, hl, hs, hA, ha, ⟨Int.le_refl _, by show g.base ≤ g.last; unfold LG.last; omega⟩, by show (0 : Int) ≤ 0 ∧ (0 : Int) ≤ 30; omega, fun hr => absurd (show (0 : Int) = 2 from hr) (by decide), fun p hp => by simp [ND.start] at hp, fun hr => absurd (show (0 : Int) = 2 from hr) (by decide), by simp [ND.start], fun i hi => by simp [ND.start] at hi⟩
theorem LIn.start0 {id n : Nat} (hid : id < n ∧ n ≤ 9) : LIn 0 0 0 (ND.start id n LG.new) :=
  LIn.start hid (by decide) (by decide) (by decide) (by decide) (by decide) (by decide) (by decide) (fun e he => by simp [LG.new] at he)
end V
end Go.Proofs.YtjdbigplednihaaGreat
set_option linter.unusedSimpArgs false
set_option linter.unusedVariables false
set_option maxRecDepth 100000
namespace Go.Proofs.YtjdbigplednihaaGreat
open Go.RowKit
namespace V
set_option maxHeartbeats 4000000
def ND.q (x : ND) : ND := { x with out := [] }
def BB (T I : Int) (A : Nat) : Prop := T ≤ 2305843009213693952 ∧ I ≤ 100000000000000 ∧ A ≤ 80000
theorem q_eq {x : ND} (h : x.out = []) : x.q = x := by
  unfold ND.q; cases x; simp at h; subst h; rfl
theorem LIn.q {T I : Int} {A : Nat} {x : ND} (h : LIn T I A x) : LIn T I A x.q := h.sends []
theorem LIn.nin0 {T I : Int} {A : Nat} {x : ND} (h : LIn T I A x) (hB : BB T I A) (ho : x.out = []) : NIn 0 x := h.nin 0 hB.1 hB.2.1 hB.2.2 (by rw [ho]; exact Nat.zero_le _)
theorem NOk.q {R : Hp} {v : NV} {x : ND} (h : NOk R v x) : NOk R { v with css := [] } x.q := ⟨h.va, Els.nil, h.vm, h.vp, h.vo, h.map⟩
theorem downS_h {n : Nat} {x : ND} {D : DK} (hd : x.down = false) (h : LD n x.g D) : ¬ downS (x, D) = true := by
  obtain ⟨h1, _, _, _, h5, _⟩ := h
  unfold downS; simp [hd, h1, h5]
theorem run_h {n m : Nat} {x y : ND} {D : DK} {f : NS → Bool × NS} (hd : x.down = false) (hl : LD m x.g D) (ho : x.out = []) (h : Hs n (f (x, D)) y) : (runN (x, D) f).1 = y.out ∧ (runN (x, D) f).2.1 = y ∧ LD n y.g (runN (x, D) f).2.2 := by
  obtain ⟨h1, h2, h3⟩ := h
  rw [runN_eq]
  unfold runR
  rw [if_neg (downS_h hd hl), show ({ x with out := [] } : ND) = x from q_eq ho, if_pos h1]
  exact ⟨by rw [h2], h2, h3⟩
def POK (b : NB) (n : Nat) (y : ND) (r : Value) (R' : Hp) (L' : List Asn) : Prop := FrX msgE R' y.out r ∧ ∃ v' D', NOk R' v' y.q ∧ LD n y.g D' ∧ L' = ndI b v' y.q D'
theorem tickOK_t {R : Hp} (b : NB) (v : NV) (x : ND) (D : DK) (n : Nat) {T I : Int} {A : Nat} (hx : LIn T I A x) (ho : x.out = []) (hB : BB T I A) (hv : NOk R v x) (hl : LD n x.g D) (hn : n ≤ 600000000) :
    Tri Tryz.prog 9 [.pointer (some ⟨b.x, 0, none⟩)] R (ndI b v x D) (POK b (n + 6000) x.tickP) := by
  have h0 := hx.nin0 hB ho
  refine Tri.mono (tick_t b v x D 0 n (by omega) h0 hv hl.okD (by omega)) (fun r R' L' _ h => ?_) (fun _ _ _ _ h => h)
  obtain ⟨v', hr, hv', rfl⟩ := h
  obtain ⟨e1, e2, e3⟩ := run_h (f := tickN) hx.down hl ho (tick_h (by omega) hl h0)
  rw [e1] at hr
  rw [e2] at hv' ⊢
  exact ⟨hr, _, _, hv'.q, e3, rfl⟩
theorem MLn.im {T I : Int} {m : Msg} (h : MLn T I m) (hT : T ≤ 2305843009213693952) (hI : I ≤ 100000000000000) (hc : m.commit < 18446744073709551616) : MIm 0 m :=
  ⟨by have := h.term; omega, by have := h.index; omega, by have := h.logTerm; omega, ⟨h.commit, hc⟩, ⟨h.es.1, fun e he => by have := h.es.2 e he; omega⟩, h.state⟩
theorem receiveOK_t {R : Hp} (b : NB) (v : NV) (x : ND) (D : DK) (m : Msg) (ve : Value) (n : Nat) {T I : Int} {A : Nat} (hx : LIn T I A x) (ho : x.out = []) (hB : BB T I A) (hm : MLn T I m) (hmc : m.commit < 18446744073709551616) (hve : FrX entE R m.es ve) (hv : NOk R v x) (hl : LD n x.g D) (hn : 17000000 ≤ n ∧ n ≤ 600000000) :
    Tri Tryz.prog 11 [.pointer (some ⟨b.x, 0, none⟩), .agg ⟨msgC m ve⟩] R (ndI b v x D) (POK b (n + 6000) (x.receiveP m)) := by
  have h0 := hx.nin0 hB ho
  have hm0 := hm.im hB.1 hB.2.1 hmc
  refine Tri.mono (receive_t b v x D m ve 0 n (by omega) h0 hv hm0 hve hl.okD (by omega)) (fun r R' L' _ h => ?_) (fun _ _ _ _ h => h)
  obtain ⟨v', hr, hv', rfl⟩ := h
  obtain ⟨e1, e2, e3⟩ := run_h (f := fun s => receiveN s m) hx.down hl ho (receive_h hn.1 (by omega) hl h0 hm0 hx.commit.1)
  rw [e1] at hr
  rw [e2] at hv' ⊢
  exact ⟨hr, _, _, hv'.q, e3, rfl⟩
def ND.proposeP (x : ND) (cmd : Bs) : (Int × Int × List Msg) × ND := if ¬ x.role = 2 then ((0, 0, []), x) else (((x.entryP cmd).g.last, (x.entryP cmd).g.term, (x.entryP cmd).out), x.entryP cmd)
theorem LIn.proposeP {T I : Int} {A : Nat} {x : ND} {cmd : Bs} (h : LIn T I A x) (hc : cmd.length ≤ 100) : LT T (I + 1) (A + 1) x (x.proposeP cmd).2 := by
  unfold ND.proposeP
  by_cases h1 : x.role = 2
  · rw [if_neg (by simp [h1])]; exact h.entryP h1 hc
  · rw [if_pos h1]; exact LT.mono (LT.rfl h) (by omega) (by omega) (by omega)
theorem proposeOK_t {R : Hp} (b : NB) (v : NV) (x : ND) (D : DK) (cmd : Bs) (n : Nat) {T I : Int} {A : Nat} (hx : LIn T I A x) (ho : x.out = []) (hB : BB T I A) (hc : cmd.length ≤ 100) (hv : NOk R v x) (hl : LD n x.g D) (hn : n ≤ 600000000) :
    Tri Tryz.prog 21 [.pointer (some ⟨b.x, 0, none⟩), .string (str cmd)] R (ndI b v x D)
      (fun r R' L' => ∃ vl, r = tupOf [.int .u64 (x.proposeP cmd).1.1, .int .u64 (x.proposeP cmd).1.2.1, vl] ∧ FrX msgE R' (x.proposeP cmd).1.2.2 vl ∧ ∃ v' D', NOk R' v' (x.proposeP cmd).2.q ∧ LD (n + 6000) (x.proposeP cmd).2.g D' ∧ L' = ndI b v' (x.proposeP cmd).2.q D') := by
  have h0 := hx.nin0 hB ho
  refine Tri.mono (propose_t b v x D cmd 0 n (by omega) h0 hv hc hl.okD (by omega)) (fun r R' L' _ h => ?_) (fun _ _ _ _ h => h)
  obtain ⟨vl, v', rfl, hr, hv', rfl⟩ := h
  by_cases h1 : x.role = 2
  · obtain ⟨e1, e2, e3⟩ := run_h (f := fun s => entryN s cmd) hx.down hl ho (entry_h (by omega) hl h0 hc)
    have h2 := h0
    have hy := hx.entryP h1 hc
    have e4 : ¬ downS (runN (x, D) (fun s => entryN s cmd)).2 = true := by
      have : (runN (x, D) (fun s => entryN s cmd)).2 = (x.entryP cmd, (runN (x, D) (fun s => entryN s cmd)).2.2) := by rw [← e2]
      rw [this]
      exact downS_h hy.inn.down e3
    have e5 : proposeN (x, D) cmd = ((x.proposeP cmd).1, (x.entryP cmd, (runN (x, D) (fun s => entryN s cmd)).2.2)) := by
      unfold proposeN ND.proposeP
      rw [if_neg (by simp [h1]), if_neg e4, if_neg (by simp [h1]), e1]
      simp only [e2]
      rw [← e2]
    have e6 : (x.proposeP cmd).2 = x.entryP cmd := by unfold ND.proposeP; rw [if_neg (by simp [h1])]
    rw [e5] at hr hv' ⊢
    rw [e6]
    exact ⟨vl, rfl, hr, _, _, hv'.q, LD.mono2 e3 (by omega), rfl⟩
  · have e5 : proposeN (x, D) cmd = ((0, 0, []), (x, D)) := by unfold proposeN; rw [if_pos h1]
    have e6 : x.proposeP cmd = ((0, 0, []), x) := by unfold ND.proposeP; rw [if_pos h1]
    rw [e5] at hr hv' ⊢
    rw [e6]
    exact ⟨vl, rfl, hr, _, _, hv'.q, LD.mono2 hl (by omega), rfl⟩
theorem startOK_t {R : Hp} (l d id n m : Nat) (u va : Value) (g : LG) (D : DK) (hn : id < n ∧ n ≤ 9) (hva : FrX entE R g.all va) (hl : LD m g D) :
    Tri Tryz.prog 25 [.int .i64 (id : Int), .int .i64 (n : Int), .pointer (some ⟨l, 0, none⟩)] R [lgB l (some ⟨d, 0, none⟩) va g, dkB d u D, dkS u D]
      (fun r R' L' => ∃ bx, r = tupOf [.pointer (some ⟨bx, 0, none⟩), .int .i64 0] ∧ NOk R' (NV.new u va) (ND.start id n g) ∧ L' = ndI ⟨bx, l, d⟩ (NV.new u va) (ND.start id n g) D) := by
  refine Tri.mono (start_t l d id n u va g D hn hva) (fun r R' L' _ h => ?_) (fun _ _ _ _ h => h)
  obtain ⟨h1, h2, h3, h4, h5, _⟩ := hl
  rcases h with ⟨h, _⟩ | ⟨_, h⟩
  · simp [h1, h5] at h
  · exact h
end V
end Go.Proofs.YtjdbigplednihaaGreat
set_option linter.unusedSimpArgs false
set_option linter.unusedVariables false
set_option maxRecDepth 100000
namespace Go.Proofs.YtjdbigplednihaaGreat
open Go.RowKit
namespace V
set_option maxHeartbeats 4000000
structure RW where
  va : Value
  vv : Value
  vn : Value
  vm : Value
def u64E : Elt Int where
  P := fun _ n cs => cs = [.int .u64 n]
  sz := 1
  mono := fun _ h => h
  len := fun h => by subst h; rfl
  one := fun h u hu => by subst h; simp at hu; subst hu; rfl
def bolE : Elt Bool where
  P := fun _ n cs => cs = [.bool n]
  sz := 1
  mono := fun _ h => h
  len := fun h => by subst h; rfl
  one := fun h u hu => by subst h; simp at hu; subst hu; rfl
def rnC (v : RW) (x : ND) : List Value := [.int .i64 (x.id : Int), .int .i64 (x.n : Int), .int .u64 x.g.term, .int .i64 x.g.vote, .int .u64 x.g.base, .int .u64 x.g.baseT, .string (str x.g.state), v.va, .int .i64 x.role, .int .i64 x.leader, .int .u64 x.commit, .int .i64 x.patience, v.vv, v.vn, v.vm]
def ND.has (x : ND) : List Bool := (List.range x.n).map fun (i : Nat) => decide ((i : Int) ∈ x.votes)
structure RNOk (R : Hp) (v : RW) (x : ND) : Prop where
  va : FrX entE R x.g.all v.va
  vv : v.vv.oneCell' = true
  vn : v.vn.oneCell' = true
  vm : v.vm.oneCell' = true
  votes : x.role = 1 → FrX bolE R x.has v.vv
  next : x.role = 2 → FrX u64E R (x.peers.map (·.1)) v.vn
  mat : x.role = 2 → FrX u64E R (x.peers.map (·.2)) v.vm
theorem RNOk.mono {R R' : Hp} (hR : R.le R') {v : RW} {x : ND} (h : RNOk R v x) : RNOk R' v x := ⟨h.va.mono hR, h.vv, h.vn, h.vm, fun hr => (h.votes hr).mono hR, fun hr => (h.next hr).mono hR, fun hr => (h.mat hr).mono hR⟩
theorem QTri.eq2 {P : Program} {f : FuncId} {args : List Value} {R : Hp} {L : List Asn} {v v' : Value} (h : QTri P f args R L v) (e : v = v') : QTri P f args R L v' := e ▸ h
end V
end Go.Proofs.YtjdbigplednihaaGreat
set_option linter.unusedSimpArgs false
set_option linter.unusedVariables false
set_option maxRecDepth 100000
namespace Go.Proofs.YtjdbigplednihaaGreat
open Go.RowKit
namespace V
set_option maxHeartbeats 4000000
theorem mid_lone {x : ND} (hn : x.n = 1) (hid : x.id = 0) : x.mid = x.g.last := by
  have h1 : x.others = [] := by unfold ND.others; rw [hn, hid]; decide
  unfold ND.mid ND.reach
  rw [h1, hn]
  simp
def awG : LG := { LG.new with term := 1, vote := 0, all := [(1, [])] }
def awW (p : Int) : ND := ⟨0, 1, awG, 2, 0, 1, p, [0], [(1, 0)], [], false⟩
def awS (p : Int) : ND := { ND.start 0 1 LG.new with patience := p }
def awX (j : Nat) : ND := if j < 10 then awS j else awW (((j - 10) % 3 : Nat) : Int)
theorem aw_win : (ND.standP (awS 10)).q = awW 0 := by
  have e : ND.standP (awS 10) = ND.feedAll (ND.count { ((awS 10).stands).wins with g := awG, peers := [(1, 0)] }) := rfl
  have e2 : ND.count { ((awS 10).stands).wins with g := awG, peers := [(1, 0)] } = { ((awS 10).stands).wins with g := awG, peers := [(1, 0)], commit := 1 } := by
    unfold ND.count
    rw [mid_lone rfl rfl]
    rw [if_pos (by decide)]
    rfl
  rw [e, e2]; rfl
theorem aw_beat (p : Int) : (ND.tickP (awW p)).q = if p + 1 ≥ 3 then awW 0 else awW (p + 1) := by
  unfold ND.tickP
  rw [if_pos (show (awW p).role = 2 from rfl)]
  by_cases h : p + 1 ≥ 3
  · rw [if_pos (show (awW p).patience + 1 ≥ 3 from h), if_pos h]; rfl
  · rw [if_neg (show ¬ (awW p).patience + 1 ≥ 3 from h), if_neg h]; rfl
theorem aw_step (j : Nat) : (awX j).tickP.q = awX (j + 1) := by
  unfold awX
  by_cases h : j < 10
  · rw [if_pos h]
    by_cases h9 : j = 9
    · subst h9
      rw [if_neg (by decide)]
      unfold ND.tickP
      rw [if_neg (by decide), if_pos (by decide)]
      exact aw_win
    · rw [if_pos (by omega)]
      unfold ND.tickP
      rw [if_neg (show ¬ (awS j).role = 2 from fun h => absurd (show (0 : Int) = 2 from h) (by decide)), if_neg]
      · show awS ((j : Int) + 1) = awS ((j + 1 : Nat) : Int)
        simp
      · show ¬ (j : Int) + 1 ≥ limitI 0 0
        rw [show limitI 0 0 = 10 by decide]; omega
  · rw [if_neg h, if_neg (by omega), aw_beat]
    by_cases h3 : (((j - 10) % 3 : Nat) : Int) + 1 ≥ 3
    · rw [if_pos h3, show (j + 1 - 10) % 3 = 0 by omega]; rfl
    · rw [if_neg h3, show (((j + 1 - 10) % 3 : Nat) : Int) = (((j - 10) % 3 : Nat) : Int) + 1 by omega]
theorem aw_in (j : Nat) : LIn j j j (awX j) ∧ (awX j).out = [] := by
  induction j with
  | zero => exact ⟨LIn.start0 (by decide), rfl⟩
  | succ j ih =>
    rw [← aw_step]
    exact ⟨by have := ih.1.tickP.inn.q; simpa using this, rfl⟩
theorem aw_prop : ∃ l z, (awX 30).proposeP [97] = ((2, 1, l), z) ∧ z.q = { awW 2 with g := { LG.new with term := 1, vote := 0, all := [(1, []), (1, [97])] }, commit := 2 } := by
  have e0 : awX 30 = awW 2 := by unfold awX; rw [if_neg (by decide)]; rfl
  rw [e0]
  unfold ND.proposeP
  rw [if_neg (by decide)]
  have e2 : ND.count { awW 2 with g := { LG.new with term := 1, vote := 0, all := [(1, []), (1, [97])] } } = { awW 2 with g := { LG.new with term := 1, vote := 0, all := [(1, []), (1, [97])] }, commit := 2 } := by
    unfold ND.count
    rw [mid_lone rfl rfl]
    rw [if_pos (by decide)]
    rfl
  have e : (awW 2).entryP [97] = ND.feedAll (ND.count { awW 2 with g := { LG.new with term := 1, vote := 0, all := [(1, []), (1, [97])] } }) := rfl
  rw [e, e2]
  exact ⟨_, _, rfl, rfl⟩
theorem start1_t {R : Hp} (l d : Nat) (u va : Value) (hva : FrX entE R LG.new.all va) :
    Tri Tryz.prog 25 [.int .i64 0, .int .i64 1, .pointer (some ⟨l, 0, none⟩)] R [lgB l (some ⟨d, 0, none⟩) va LG.new, dkB d u DK.new, dkS u DK.new]
      (fun r R' L' => ∃ bx, r = tupOf [.pointer (some ⟨bx, 0, none⟩), .int .i64 0] ∧ NOk R' (NV.new u va) (awX 0) ∧ L' = ndI ⟨bx, l, d⟩ (NV.new u va) (awX 0) DK.new) :=
  startOK_t l d 0 1 0 u va LG.new DK.new (by decide) hva LD.new
theorem awake_t {R : Hp} : Tri Tryz.prog 7 [] R [] (fun v R' L' => v = .bool true ∧ L' = []) := by
  refine tri_of Tryz.func7 rfl Tryz.ntmps7 rfl (fun σ F Q hret hend hpan => ?_)
  try simp only [List.cons_append, List.nil_append]
  refine cj_env eN ?_
  refine cj_seq (fun K1 hK1 => ?_)
  refine cj_region ?_
  refine rv0 rfl rfl rfl (y_assign rfl) ?_
  refine rj_nil ?_
  refine hK1 _ _ _ ?_
  refine cj_seq (fun K2 hK2 => ?_)
  refine cj_region ?_
  refine rj_call (wn0 rfl) rfl Tryz.call27 rfl (new_t) (by (repeat (first|exact zN _|(apply zS;focus (repeat (first|exact zH _|apply zT)))))) (fun _ _ _ _ h => h.elim) ?_
  rintro r R1 L' hR1 ⟨rfl, bd, u0, rfl, rfl⟩
  try simp only [List.cons_append, List.nil_append]
  refine rj_call (wn0 rfl) rfl Tryz.call24 rfl (openOK_t bd u0 DK.new 0 LG.new LD.new (by decide)) (by (repeat (first|exact zN _|(apply zS;focus (repeat (first|exact zH _|apply zT)))))) (fun _ _ _ _ h => h.elim) ?_
  rintro x R2 L' hR2 ⟨b1, va1, u1, rfl, hva1, rfl⟩
  try simp only [List.cons_append, List.nil_append]
  refine rv0 rfl rfl rfl (y_move rfl) ?_
  refine rv0 rfl rfl rfl (y_extract rfl rfl) ?_
  refine rv0 rfl rfl rfl (y_extract rfl rfl) ?_
  refine rv0 rfl rfl rfl (y_assign rfl) ?_
  refine rv0 rfl rfl rfl (y_assign rfl) ?_
  refine rj_nil ?_
  refine hK2 _ _ _ ?_
  refine cj_env (eL 1 rfl eN) ?_
  refine cj_seq (fun K3 hK3 => ?_)
  refine cj_region ?_
  refine rv0 rfl rfl rfl (y_move rfl) ?_
  refine rj_call (wn0 rfl) rfl Tryz.call25 rfl (start1_t b1 bd u1 va1 hva1) (by (repeat (first|exact zN _|(apply zS;focus (repeat (first|exact zH _|apply zT)))))) (fun _ _ _ _ h => h.elim) ?_
  rintro x R3 L' hR3 ⟨bx, rfl, hv3, rfl⟩
  try simp only [List.cons_append, List.nil_append]
  refine rv0 rfl rfl rfl (y_move rfl) ?_
  refine rv0 rfl rfl rfl (y_extract rfl rfl) ?_
  refine rv0 rfl rfl rfl (y_extract rfl rfl) ?_
  refine rv0 rfl rfl rfl (y_assign rfl) ?_
  refine rv0 rfl rfl rfl (y_assign rfl) ?_
  refine rj_nil ?_
  refine hK3 _ _ _ ?_
  refine cj_env (eL 3 rfl (eL 4 rfl eN)) ?_
  refine cj_seq (fun K4 hK4 => ?_)
  refine cj_seq (fun K5 hK5 => ?_)
  refine cj_region ?_
  refine rv0 rfl rfl rfl (y_move rfl) ?_
  refine rj_nil ?_
  refine hK5 _ _ _ ?_
  refine cj_block ?_
  refine cj_env (E' := (fun (x1 : Nat × NV × DK × Hp) => [(3, .pointer (some ⟨bx, 0, none⟩)), (4, .int .i64 0), (18, .int .i64 (x1.1 : Int))]) (0, NV.new u1 va1, DK.new, R3)) (eC rfl (eC rfl (eC rfl eN))) ?_
  refine cj_sub (M := (fun (x1 : Nat × NV × DK × Hp) => ndB ⟨bx, b1, bd⟩ x1.2.1 (awX x1.1) :: lgN ⟨bx, b1, bd⟩ x1.2.1 (awX x1.1) :: dkB bd x1.2.1.u x1.2.2.1 :: dkS x1.2.1.u x1.2.2.1 :: prA x1.2.1 (awX x1.1) :: mpA x1.2.1.vm (awX x1.1).votes :: F) (0, NV.new u1 va1, DK.new, R3)) (by (repeat (first|exact zR _|(apply zP;focus (repeat (first|exact zH _|apply zT)))|apply zD|exact zA _ _))) ?_
  refine cj_loop (fun (x1 : Nat × NV × DK × Hp) => [(3, .pointer (some ⟨bx, 0, none⟩)), (4, .int .i64 0), (18, .int .i64 (x1.1 : Int))]) (fun (x1 : Nat × NV × DK × Hp) => x1.2.2.2) (fun (x1 : Nat × NV × DK × Hp) => ndB ⟨bx, b1, bd⟩ x1.2.1 (awX x1.1) :: lgN ⟨bx, b1, bd⟩ x1.2.1 (awX x1.1) :: dkB bd x1.2.1.u x1.2.2.1 :: dkS x1.2.1.u x1.2.2.1 :: prA x1.2.1 (awX x1.1) :: mpA x1.2.1.vm (awX x1.1).votes :: F) (fun (x1 : Nat × NV × DK × Hp) => x1.1 ≤ 30 ∧ NOk x1.2.2.2 x1.2.1 (awX x1.1) ∧ LD (6000 * x1.1) (awX x1.1).g x1.2.2.1 ∧ R3.le x1.2.2.2) (fun (x1 : Nat × NV × DK × Hp) => 30 - x1.1) (0, NV.new u1 va1, DK.new, R3) (⟨by simp, hv3, LD.new, Hp.le_refl _⟩) ?_
  rintro ⟨j, v, D, R4⟩ ⟨hj, hv4, hD4, hR4⟩
  try dsimp only
  dsimp only at hj hv4 hD4 hR4
  refine cj_seq (fun K6 hK6 => ?_)
  refine cj_region ?_
  refine rv0 rfl rfl rfl (y_lss rfl rfl) ?_
  refine rj_nil ?_
  refine hK6 _ _ _ ?_
  refine cj_seq (fun K7 hK7 => ?_)
  refine cj_cond rfl (fun hc19 => ?_) (fun hc19 => ?_)
  ·try simp only [dT, dF, nT, nF, tF, fT] at hc19
   refine cj_skip ?_
   refine hK7 _ _ _ ?_
   refine cj_seq (fun K9 hK9 => ?_)
   refine cj_block ?_
   have hj3 : j < 30 := by (try simp at hc19); omega
   obtain ⟨hin, hout⟩ := aw_in j
   refine cj_region ?_
   refine rv0 rfl rfl rfl (y_move rfl) ?_
   refine rj_call (wn0 rfl) rfl Tryz.call9 rfl (tickOK_t ⟨bx, b1, bd⟩ v (awX j) D (6000 * j) hin hout (by unfold BB; omega) hv4 hD4 (by omega)) (by (repeat (first|exact zN _|(apply zS;focus (repeat (first|exact zH _|apply zT)))))) (fun _ _ _ _ h => h.elim) ?_
   rintro r R5 L' hR5 ⟨hvl, v5, D5, hv5, hD5, rfl⟩
   rw [aw_step] at hv5 ⊢
   replace hD5 : LD (6000 * (j + 1)) (awX (j + 1)).g D5 := by rw [← aw_step]; exact hD5
   try simp only [List.cons_append, List.nil_append]
   refine rj_nil ?_
   refine hK9 _ _ _ ?_
   refine cj_env (eL 3 rfl (eL 4 rfl (eL 18 rfl eN))) ?_
   refine cj_region ?_
   first | refine rv0 rfl rfl rfl (y_add64 rfl rfl (by (first | omega | (dsimp only; omega) | (simp; done) | (simp; omega)))) ?_ | refine rv0 rfl rfl rfl (y_add rfl rfl) ?_
   refine rv0 rfl rfl rfl (y_move rfl) ?_
   refine rj_nil ?_
   refine ej_on (q' := roundK _ _ _ _ _ _ _) rfl ?_
   refine ej_round ((j + 1, v5, D5, R5)) (⟨by dsimp only; omega, hv5, hD5, Hp.le_trans hR4 hR5⟩) (by dsimp only; omega) (eC rfl (eC rfl (eC rfl eN))) rfl (by (repeat (first|exact zR _|(apply zP;focus (repeat (first|exact zH _|apply zT)))|apply zD|exact zA _ _)))
  ·try simp only [dT, dF, nT, nF, tF, fT] at hc19
   refine cj_exit ?_
   refine hK4 _ _ _ ?_
   refine cj_seq (fun K10 hK10 => ?_)
   obtain rfl : j = 30 := by (try simp at hc19); omega
   obtain ⟨hin, hout⟩ := aw_in 30
   obtain ⟨lp, zp, hpe, hze⟩ := aw_prop
   refine cj_region ?_
   refine rv0 rfl rfl rfl (y_move rfl) ?_
   refine rj_call (wn0 rfl) rfl Tryz.call21 rfl (proposeOK_t ⟨bx, b1, bd⟩ v (awX 30) D [97] (6000 * 30) hin hout (by unfold BB; omega) (by decide) hv4 hD4 (by omega)) (by (repeat (first|exact zN _|(apply zS;focus (repeat (first|exact zH _|apply zT)))))) (fun _ _ _ _ h => h.elim) ?_
   rintro r R6 L' hR6 ⟨vl, rfl, hvl, v6, D6, hv6, hD6, rfl⟩
   rw [hpe] at hvl hv6 hD6 ⊢
   dsimp only at hvl hv6 hD6 ⊢
   rw [hze] at hv6 ⊢
   have hvlo := hvl.one
   obtain ⟨z, hz⟩ : ∃ z : ND, z = { awW 2 with g := { LG.new with term := 1, vote := 0, all := [(1, []), (1, [97])] }, commit := 2 } := ⟨_, rfl⟩
   rw [← hz] at hv6 ⊢
   have hzg : z.g.ok := by rw [hz]; exact ⟨by unfold u64B; decide, by decide, by decide, by unfold u64B; decide, by decide, by decide, fun e he => by simp at he; rcases he with rfl | rfl <;> exact ⟨by unfold u64B; decide, by decide⟩⟩
   have hz1 : z.role = 2 := by rw [hz]; rfl
   have hz2 : z.leader = 0 := by rw [hz]; rfl
   have hz3 : z.commit = 2 := by rw [hz]
   have hz4 : z.g.last = 2 := by rw [hz]; rfl
   try simp only [List.cons_append, List.nil_append]
   refine rv0 rfl rfl rfl (y_move rfl) ?_
   refine rv0 rfl rfl rfl (y_extract rfl rfl) ?_
   refine rv0 rfl rfl rfl (y_extract rfl rfl) ?_
   refine rv0 rfl rfl rfl (y_extract rfl rfl) ?_
   refine rv0 rfl rfl rfl (y_assign rfl) ?_
   refine rv0 rfl rfl rfl (y_assign rfl) ?_
   refine rv0 rfl rfl rfl (y_assign rfl) ?_
   refine rj_nil ?_
   refine hK10 _ _ _ ?_
   refine cj_env (eL 3 rfl (eL 4 rfl (eL 5 rfl (eL 6 rfl eN)))) ?_
   refine cj_seq (fun K11 hK11 => ?_)
   refine cj_region ?_
   refine rv0 rfl rfl rfl (y_move rfl) ?_
   refine rv0 rfl rfl rfl (y_eql rfl rfl) ?_
   refine rv0 rfl rfl rfl (y_move rfl) ?_
   refine rj_val (wn1 rfl rfl rfl rfl) rfl rfl (y_move rfl) ?_
   refine rj_val (wn1 rfl rfl rfl rfl) rfl rfl (y_call Tryz.call10 rfl ((ndRole_q ⟨bx, b1, bd⟩ v6 z).eq2 (v' := .int .i64 2) (by rw [hz1])) (by (repeat (first|exact zN _|(apply zS;focus (repeat (first|exact zH _|apply zT))))))) ?_
   refine rj_val (wn1 rfl rfl rfl rfl) rfl rfl (y_eql rfl rfl) ?_
   refine rv0 rfl rfl rfl (y_pick_t rfl rfl) ?_
   refine rv0 rfl rfl rfl (y_move rfl) ?_
   refine rj_val (wn1 rfl rfl rfl rfl) rfl rfl (y_move rfl) ?_
   refine rj_val (wn1 rfl rfl rfl rfl) rfl rfl (y_call Tryz.call30 rfl ((ndLeader_q ⟨bx, b1, bd⟩ v6 z).eq2 (v' := .int .i64 0) (by rw [hz2])) (by (repeat (first|exact zN _|(apply zS;focus (repeat (first|exact zH _|apply zT))))))) ?_
   refine rj_val (wn1 rfl rfl rfl rfl) rfl rfl (y_eql rfl rfl) ?_
   refine rv0 rfl rfl rfl (y_pick_t rfl rfl) ?_
   refine rv0 rfl rfl rfl (y_move rfl) ?_
   refine rj_val (wn1 rfl rfl rfl rfl) rfl rfl (y_move rfl) ?_
   refine rj_val (wn1 rfl rfl rfl rfl) rfl rfl (y_eql rfl rfl) ?_
   refine rv0 rfl rfl rfl (y_pick_t rfl rfl) ?_
   refine rv0 rfl rfl rfl (y_move rfl) ?_
   refine rj_val (wn1 rfl rfl rfl rfl) rfl rfl (y_move rfl) ?_
   refine rj_val (wn1 rfl rfl rfl rfl) rfl rfl (y_eql rfl rfl) ?_
   refine rv0 rfl rfl rfl (y_pick_t rfl rfl) ?_
   refine rv0 rfl rfl rfl (y_move rfl) ?_
   refine rj_val (wn1 rfl rfl rfl rfl) rfl rfl (y_move rfl) ?_
   refine rj_val (wn1 rfl rfl rfl rfl) rfl rfl (y_call Tryz.call17 rfl ((ndCommit_q ⟨bx, b1, bd⟩ v6 z).eq2 (v' := .int .u64 2) (by rw [hz3])) (by (repeat (first|exact zN _|(apply zS;focus (repeat (first|exact zH _|apply zT))))))) ?_
   refine rj_val (wn1 rfl rfl rfl rfl) rfl rfl (y_eql rfl rfl) ?_
   refine rv0 rfl rfl rfl (y_pick_t rfl rfl) ?_
   refine rv0 rfl rfl rfl (y_move rfl) ?_
   refine rj_val (wn1 rfl rfl rfl rfl) rfl rfl (y_move rfl) ?_
   refine rj_val (wn1 rfl rfl rfl rfl) rfl rfl (y_call Tryz.call12 rfl (ndLog_q ⟨bx, b1, bd⟩ v6 z) (by (repeat (first|exact zN _|(apply zS;focus (repeat (first|exact zH _|apply zT))))))) ?_
   refine rj_val (wn1 rfl rfl rfl rfl) rfl rfl (y_call Tryz.call19 rfl ((lgLast_q b1 (some ⟨bd, 0, none⟩) v6.va z.g hzg hv6.va).eq2 (v' := .int .u64 2) (by rw [hz4])) (by (repeat (first|exact zN _|(apply zS;focus (repeat (first|exact zH _|apply zT))))))) ?_
   refine rj_val (wn1 rfl rfl rfl rfl) rfl rfl (y_eql rfl rfl) ?_
   refine rv0 rfl rfl rfl (y_pick_t rfl rfl) ?_
   refine rv0 rfl rfl rfl (y_assign rfl) ?_
   refine rj_nil ?_
   refine hK11 _ _ _ ?_
   refine cj_env (eL 0 rfl eN) ?_
   refine cj_ret ?_
   refine hret _ _ _ ?_
   apply ej_ret Tryz.results7 (.cons (rv_tmp rfl) .nil) _ [] (by exact Hp.le_trans hR1 (Hp.le_trans hR2 (Hp.le_trans hR3 (Hp.le_trans hR4 hR6)))) rfl
   case hp => exact ⟨rfl, rfl⟩
   case hS => (repeat (first|exact zR _|(apply zP;focus (repeat (first|exact zH _|apply zT)))|apply zD|exact zA _ _))
def RW.new (va : Value) : RW := ⟨va, .slice none 0 0, .slice none 0 0, .slice none 0 0⟩
theorem rnC_cells {v : RW} {x : ND} (h0 : v.va.oneCell' = true) (h1 : v.vv.oneCell' = true) (h2 : v.vn.oneCell' = true) (h3 : v.vm.oneCell' = true) : ∀ u ∈ rnC v x, u.oneCell' = true := fun u hu => by
  simp only [rnC, List.mem_cons, List.not_mem_nil, or_false] at hu
  rcases hu with rfl | rfl | rfl | rfl | rfl | rfl | rfl | rfl | rfl | rfl | rfl | rfl | rfl | rfl | rfl <;> first | rfl | assumption
theorem rStart_q {R : Hp} (id n : Nat) (g : LG) (va : Value) (hva : va.oneCell' = true) : QTri Tryz.prog 28 [.int .i64 (id : Int), .int .i64 (n : Int), .agg ⟨rlC va g⟩] R [] (.agg ⟨rnC (RW.new va) (ND.start id n g)⟩) := by
  refine Tri.q2 ?_
  unfold rlC
  refine tri_of Tryz.func28 rfl Tryz.ntmps28 rfl (fun σ F Q hret hend hpan => ?_)
  try simp only [List.cons_append, List.nil_append]
  refine cj_env (eL 0 rfl (eL 1 rfl (eL 2 rfl eN))) ?_
  refine cj_seq (fun K1 hK1 => ?_)
  refine cj_region ?_
  refine rj_box (wn0 rfl) rfl rfl rfl (fun b5 => ?_)
  refine rj_alloc (wn0 rfl) rfl Tryz.zeroValue37 rfl (fun b6 => ?_)
  refine rj_nil ?_
  refine hK1 _ _ _ ?_
  refine cj_seq (fun K2 hK2 => ?_)
  refine cj_region ?_
  refine rv0 rfl rfl rfl (y_move rfl) ?_
  refine rv0 rfl rfl rfl (y_move rfl) ?_
  refine rv0 rfl rfl rfl ((y_loads_all (vs := rlC va g) ⟨Tryz.isAgg34, Tryz.sizeOf34⟩ rfl rfl (by (repeat (first|exact zH _|apply zT));done))) ?_
  refine rv0 rfl rfl rfl (y_fieldAddr (k := 2) Tryz.underlying34 rfl (n := 1) (by decide) Tryz.sizeOf31 rfl) ?_
  first | refine rv0 rfl rfl rfl (y_load ⟨Tryz.isAgg31, Tryz.sizeOf31⟩ rfl (by (repeat (first|exact zH _|apply zT));done) rfl) ?_ | refine rv0 rfl rfl rfl (y_load_slc ⟨Tryz.isAgg31, Tryz.sizeOf31⟩ rfl (by (repeat (first|exact zH _|apply zT));done) rfl) ?_
  refine rv0 rfl rfl rfl (y_build (cells := [_, _, _, _, _, _, _, _, _, _, _, _, _, _, _]) [(0, 1), (1, 1), (2, 6), (8, 1), (9, 1), (10, 1), (11, 1), (12, 1), (13, 1), (14, 1)] Tryz.underlying37 Tryz.zeroValue37 (fun _ => rfl) rfl rfl) ?_
  refine rj_stores_all (vs := rnC (RW.new va) (ND.start id n g)) ⟨Tryz.isAgg37, Tryz.sizeOf37⟩ rfl (wn0 rfl) rfl rfl (rnC_cells hva rfl rfl rfl) (by (repeat (first|exact zH _|apply zT));done) rfl ?_
  refine rj_nil ?_
  refine hK2 _ _ _ ?_
  refine cj_env (eL 6 rfl eN) ?_
  refine cj_ret ?_
  refine hret _ _ _ ?_
  apply ej_ret Tryz.results28 (.cons (rv_cells ⟨Tryz.isAgg37, Tryz.sizeOf37⟩ rfl (by (repeat (first|exact zH _|apply zT));done) rfl rfl) .nil) _ [] (by (first | exact Hp.le_refl _ | assumption | exact Hp.le_trans ‹_› ‹_›)) rfl
  case hp => exact ⟨rfl, rfl⟩
  case hS => (repeat (first|exact zR _|(apply zP;focus (repeat (first|exact zH _|apply zT)))|apply zD|exact zA _ _))
theorem RNOk.start {R : Hp} {va : Value} {id n : Nat} {g : LG} (h : FrX entE R g.all va) : RNOk R (RW.new va) (ND.start id n g) :=
  ⟨h, rfl, rfl, rfl, fun h => absurd (show (0 : Int) = 1 from h) (by decide), fun h => absurd (show (0 : Int) = 2 from h) (by decide), fun h => absurd (show (0 : Int) = 2 from h) (by decide)⟩
def lnC (bd bx : Nat) (v : RW) (x : ND) : List Value := .pointer (some ⟨bd, 0, none⟩) :: .pointer (some ⟨bx, 0, none⟩) :: rnC v x
@[reducible] def lnB (b bd bx : Nat) (v : RW) (x : ND) : Asn := blk b (lnC bd bx v x) 39
theorem lnStart_t {R : Hp} (id n : Nat) (hn : id < n ∧ n ≤ 9) : Tri Tryz.prog 8 [.int .i64 (id : Int), .int .i64 (n : Int)] R []
    (fun r R' L' => ∃ bp, ∃ b : NB, ∃ v w, r = tupOf [.pointer (some ⟨bp, 0, none⟩), .bool true] ∧ NOk R' v (ND.start id n LG.new) ∧ RNOk R' w (ND.start id n LG.new) ∧ L' = lnB bp b.d b.x w (ND.start id n LG.new) :: ndI b v (ND.start id n LG.new) DK.new) := by
  refine tri_of Tryz.func8 rfl Tryz.ntmps8 rfl (fun σ F Q hret hend hpan => ?_)
  try simp only [List.cons_append, List.nil_append]
  refine cj_env (eL 0 rfl (eL 1 rfl eN)) ?_
  refine cj_seq (fun K1 hK1 => ?_)
  refine cj_region ?_
  refine rv0 rfl rfl rfl (y_assign rfl) ?_
  refine rv0 rfl rfl rfl (y_assign rfl) ?_
  refine rj_nil ?_
  refine hK1 _ _ _ ?_
  refine cj_seq (fun K2 hK2 => ?_)
  refine cj_region ?_
  refine rj_call (wn0 rfl) rfl Tryz.call27 rfl (new_t) (by (repeat (first|exact zN _|(apply zS;focus (repeat (first|exact zH _|apply zT)))))) (fun _ _ _ _ h => h.elim) ?_
  rintro r R1 L' hR1 ⟨rfl, bd, u0, rfl, rfl⟩
  try simp only [List.cons_append, List.nil_append]
  refine rv0 rfl rfl rfl (y_assign rfl) ?_
  refine rj_nil ?_
  refine hK2 _ _ _ ?_
  refine cj_env (eL 0 rfl (eL 1 rfl (eL 6 rfl eN))) ?_
  refine cj_seq (fun K3 hK3 => ?_)
  refine cj_region ?_
  refine rv0 rfl rfl rfl (y_move rfl) ?_
  refine rj_call (wn0 rfl) rfl Tryz.call24 rfl (openOK_t bd u0 DK.new 0 LG.new LD.new (by decide)) (by (repeat (first|exact zN _|(apply zS;focus (repeat (first|exact zH _|apply zT)))))) (fun _ _ _ _ h => h.elim) ?_
  rintro x R2 L' hR2 ⟨b1, va1, u1, rfl, hva1, rfl⟩
  try simp only [List.cons_append, List.nil_append]
  refine rv0 rfl rfl rfl (y_move rfl) ?_
  refine rv0 rfl rfl rfl (y_extract rfl rfl) ?_
  refine rv0 rfl rfl rfl (y_extract rfl rfl) ?_
  refine rv0 rfl rfl rfl (y_assign rfl) ?_
  refine rv0 rfl rfl rfl (y_assign rfl) ?_
  refine rj_nil ?_
  refine hK3 _ _ _ ?_
  refine cj_env (eL 0 rfl (eL 1 rfl (eL 6 rfl (eL 7 rfl (eL 8 rfl eN))))) ?_
  refine cj_seq (fun K4 hK4 => ?_)
  refine cj_region ?_
  refine rv0 rfl rfl rfl (y_move rfl) ?_
  refine rv0 rfl rfl rfl (y_move rfl) ?_
  refine rv0 rfl rfl rfl (y_move rfl) ?_
  refine rj_call (wn0 rfl) rfl Tryz.call25 rfl (startOK_t b1 bd id n 0 u1 va1 LG.new DK.new hn hva1 LD.new) (by (repeat (first|exact zN _|(apply zS;focus (repeat (first|exact zH _|apply zT)))))) (fun _ _ _ _ h => h.elim) ?_
  rintro x R3 L' hR3 ⟨bx, rfl, hv3, rfl⟩
  try simp only [List.cons_append, List.nil_append]
  refine rv0 rfl rfl rfl (y_move rfl) ?_
  refine rv0 rfl rfl rfl (y_extract rfl rfl) ?_
  refine rv0 rfl rfl rfl (y_extract rfl rfl) ?_
  refine rv0 rfl rfl rfl (y_assign rfl) ?_
  refine rv0 rfl rfl rfl (y_assign rfl) ?_
  refine rj_nil ?_
  refine hK4 _ _ _ ?_
  refine cj_env (eL 0 rfl (eL 1 rfl (eL 6 rfl (eL 8 rfl (eL 9 rfl (eL 10 rfl eN)))))) ?_
  refine cj_seq (fun K5 hK5 => ?_)
  refine cj_region ?_
  refine rv0 rfl rfl rfl (y_move rfl) ?_
  refine rv0 rfl rfl rfl (y_move rfl) ?_
  refine rv0 rfl rfl rfl (y_move rfl) ?_
  refine rv0 rfl rfl rfl (y_move rfl) ?_
  refine rv0 rfl rfl rfl (y_call Tryz.call31 rfl (rlNew_q) (by (repeat (first|exact zN _|(apply zS;focus (repeat (first|exact zH _|apply zT))))))) ?_
  refine rv0 rfl rfl rfl (y_call Tryz.call28 rfl (rStart_q id n LG.new (.slice none 0 0) rfl) (by (repeat (first|exact zN _|(apply zS;focus (repeat (first|exact zH _|apply zT))))))) ?_
  refine rv0 rfl rfl rfl (y_build (cells := [_, _, _, _, _, _, _, _, _, _, _, _, _, _, _, _, _]) [(0, 1), (1, 1), (2, 15)] Tryz.underlying39 Tryz.zeroValue39 (fun _ => rfl) rfl rfl) ?_
  refine rj_box (wn0 rfl) rfl rfl rfl (fun bp => ?_)
  refine rv0 rfl rfl rfl (y_move rfl) ?_
  refine rv0 rfl rfl rfl (y_eql rfl rfl) ?_
  refine rv0 rfl rfl rfl (y_move rfl) ?_
  refine rj_val (wn1 rfl rfl rfl rfl) rfl rfl (y_move rfl) ?_
  refine rj_val (wn1 rfl rfl rfl rfl) rfl rfl (y_eql rfl rfl) ?_
  refine rv0 rfl rfl rfl (y_pick_t rfl rfl) ?_
  refine rv0 rfl rfl rfl (y_assign rfl) ?_
  refine rv0 rfl rfl rfl (y_assign rfl) ?_
  refine rj_nil ?_
  refine hK5 _ _ _ ?_
  refine cj_env (eL 4 rfl (eL 5 rfl eN)) ?_
  refine cj_ret ?_
  refine hret _ _ _ ?_
  apply ej_ret Tryz.results8 (.cons (rv_tmp rfl) (.cons (rv_tmp rfl) .nil)) _ (lnB bp bd bx (RW.new (.slice none 0 0)) (ND.start id n LG.new) :: ndI ⟨bx, b1, bd⟩ (NV.new u1 va1) (ND.start id n LG.new) DK.new) (by exact Hp.le_trans hR1 (Hp.le_trans hR2 hR3)) rfl
  case hp => exact ⟨bp, ⟨bx, b1, bd⟩, _, _, rfl, hv3, RNOk.start FrX.nil, rfl⟩
  case hS => (repeat (first|exact zR _|(apply zP;focus (repeat (first|exact zH _|apply zT)))|apply zD|exact zA _ _))
theorem lnStart0_t {R : Hp} (n : Nat) (hn : 0 < n ∧ n ≤ 9) : Tri Tryz.prog 8 [.int .i64 0, .int .i64 (n : Int)] R []
    (fun r R' L' => ∃ bp, ∃ b : NB, ∃ v w, r = tupOf [.pointer (some ⟨bp, 0, none⟩), .bool true] ∧ NOk R' v (ND.start 0 n LG.new) ∧ RNOk R' w (ND.start 0 n LG.new) ∧ L' = lnB bp b.d b.x w (ND.start 0 n LG.new) :: ndI b v (ND.start 0 n LG.new) DK.new) := lnStart_t 0 n hn
end V
end Go.Proofs.YtjdbigplednihaaGreat
set_option linter.unusedSimpArgs false
set_option linter.unusedVariables false
set_option maxRecDepth 100000
namespace Go.Proofs.YtjdbigplednihaaGreat
open Go.RowKit
namespace V
set_option maxHeartbeats 4000000
def u8E : Elt Int where
  P := fun _ n cs => cs = [.int .u8 n] ∧ 0 ≤ n ∧ n ≤ 255
  sz := 1
  mono := fun _ h => h
  len := fun h => by rw [h.1]; rfl
  one := fun h u hu => by rw [h.1] at hu; simp at hu; subst hu; rfl
def caS (n : Nat) (p : Int) : ND := { ND.start 0 n LG.new with patience := p }
def caC (n : Nat) (vs : List Int) : ND := ⟨0, n, { LG.new with term := 1, vote := 0 }, 1, -1, 0, 0, vs, [], [], false⟩
theorem ca_step {n j : Nat} (hj : j < 9) : (caS n j).tickP.q = caS n (j + 1 : Nat) := by
  unfold ND.tickP
  rw [if_neg (show ¬ (caS n j).role = 2 from fun h => absurd (show (0 : Int) = 2 from h) (by decide)), if_neg]
  · show caS n ((j : Int) + 1) = _
    simp
  · show ¬ (j : Int) + 1 ≥ limitI 0 0
    rw [show limitI 0 0 = 10 by decide]; omega
theorem standP_n {x : ND} (h : ¬ x.n = 1) : x.standP = (ND.stands { x with g := { x.g with term := x.g.term + 1, vote := x.id } }).askAll := by unfold ND.standP; rw [if_neg h]
theorem ca_stand {n : Nat} (hn : n ≠ 1) : (caS n (9 : Nat)).tickP.q = caC n [0] := by
  unfold ND.tickP
  rw [if_neg (show ¬ (caS n (9 : Nat)).role = 2 from fun h => absurd (show (0 : Int) = 2 from h) (by decide)), if_pos (show (caS n (9 : Nat)).patience + 1 ≥ limitI (caS n (9 : Nat)).id (caS n (9 : Nat)).g.term from (by show ((9 : Nat) : Int) + 1 ≥ limitI 0 0; decide))]
  rw [standP_n (x := { caS n (9 : Nat) with patience := (caS n (9 : Nat)).patience + 1 }) hn]
  unfold ND.askAll
  rw [asks_eq]
  rfl
theorem ca_in {n j : Nat} (hn : 0 < n ∧ n ≤ 9) (hj : j ≤ 9) : LIn j j j (caS n j) := by
  have h := LIn.start0 (id := 0) (n := n) hn
  exact ((h.pat (p := (j : Int)) (by omega)).inn).mono (by omega) (by omega) (by omega)
theorem caC_in {n : Nat} {vs : List Int} (hn : 0 < n ∧ n ≤ 9) (hv : vs.Nodup ∧ ∀ i ∈ vs, 0 ≤ i ∧ i < (n : Int)) : LIn 1 1 1 (caC n vs) :=
  ⟨hn, rfl, by show (0 : Int) ≤ 1 ∧ (1 : Int) ≤ 1; omega, by show (-1 : Int) ≤ 0 ∧ (0 : Int) < 9; omega, Int.le_refl _, by show (0 : Int) ≤ 0 ∧ (0 : Int) ≤ 1; omega, by show (0 : Int) ≤ 1; omega, Nat.zero_le _, Nat.zero_le _, fun e he => by simp [caC, LG.new] at he, by show (0 : Int) ≤ 0 ∧ (0 : Int) ≤ 0; omega, by show (0 : Int) ≤ 0 ∧ (0 : Int) ≤ 30; omega, fun h => absurd (show (1 : Int) = 2 from h) (by decide), fun p hp => by simp [caC] at hp, fun h => absurd (show (1 : Int) = 2 from h) (by decide), hv⟩
theorem win_facts (x : ND) : x.winP.role = 2 ∧ x.winP.g.term = x.g.term ∧ x.winP.g.vote = x.g.vote := by
  unfold ND.winP ND.entryP
  rw [feedAll_eq]
  have h := count_out { x.wins with g := x.wins.g.play (.add x.wins.g.last [(x.wins.g.term, [])]) }
  refine ⟨h.2.2.1, ?_, ?_⟩
  · show (ND.count _).g.term = _
    rw [h.2.1]; rfl
  · show (ND.count _).g.vote = _
    rw [h.2.1]; rfl
structure RW1 (n : Nat) (vs : List Int) (y : ND) : Prop where
  inn : LIn 1 21 21 y
  out : y.out = []
  term : y.g.term = 1
  vote : y.g.vote = 0
  nd : vs.Nodup ∧ ∀ i ∈ vs, 0 ≤ i ∧ i < (n : Int)
  is : (y = caC n vs ∧ ¬ 2 * (vs.length : Int) > n) ∨ (y.role = 2 ∧ 2 * (vs.length : Int) > n)
theorem RW1.start {n : Nat} (hn : 2 ≤ n ∧ n ≤ 9) : RW1 n [0] (caC n [0]) :=
  ⟨(caC_in (by omega) ⟨by simp, by simp; omega⟩).mono (by omega) (by omega) (by omega), rfl, rfl, rfl, ⟨by simp, by simp; omega⟩, .inl ⟨rfl, by simp; omega⟩⟩
theorem RW1.role {n : Nat} {vs : List Int} {y : ND} (h : RW1 n vs y) : decide (y.role = 2) = decide (2 * (vs.length : Int) > n) := by
  rcases h.is with ⟨rfl, h1⟩ | ⟨h1, h2⟩
  · rw [decide_eq_false h1]; rfl
  · rw [decide_eq_true h1, decide_eq_true h2]
theorem RW1.cand {n : Nat} {vs : List Int} {y : ND} (h : RW1 n vs y) (hr : y.role = 1) : y = caC n vs := by
  rcases h.is with ⟨h1, _⟩ | ⟨h1, _⟩
  · exact h1
  · omega
def caM (who : Int) (ok : Bool) : Msg := { Msg.zero with kind := 1, frm := who, to := 0, term := 1, ok := ok }
theorem caM_in (who : Int) (ok : Bool) : MLn 1 1 (caM who ok) :=
  ⟨by show (0 : Int) ≤ 1 ∧ (1 : Int) ≤ 1; omega, by show (0 : Int) ≤ 0 ∧ (0 : Int) ≤ 1; omega, by show (0 : Int) ≤ 0 ∧ (0 : Int) ≤ 1; omega, by show (0 : Int) ≤ 0; omega, ⟨by show 0 ≤ 20; omega, fun e he => by simp [caM, Msg.zero] at he⟩, by show 0 ≤ 1000000; omega⟩
theorem RW1.recv {n : Nat} {vs : List Int} (hn : 2 ≤ n ∧ n ≤ 9) (h : RW1 n vs (caC n vs)) {who : Int} {ok : Bool} :
    RW1 n (if 0 < who ∧ who < n ∧ ok = true then setAdd vs who else vs) ((caC n vs).receiveP (caM who ok)).q := by
  have hi : LIn 1 1 1 (caC n vs) := caC_in (by omega) h.nd
  have h0 : ¬ (n : Int) < 2 * vs.length := by
    rcases h.is with ⟨_, h1⟩ | ⟨h1, _⟩
    · omega
    · exact absurd (show (1 : Int) = 2 from h1) (by decide)
  have hr := (hi.receiveP (m := caM who ok) (caM_in who ok)).inn.q
  have hs : RW1 n vs (caC n vs).q := by
    exact ⟨hi.q.mono (by omega) (by omega) (by omega), rfl, rfl, rfl, h.nd, .inl ⟨rfl, by omega⟩⟩
  by_cases hg : 0 < who ∧ who < n
  · have e1 : (caC n vs).receiveP (caM who ok) = (caC n vs).votedP (caM who ok) := by
      unfold ND.receiveP
      rw [if_neg (by intro hh; rcases hh with hh | hh | hh | hh; exact hh rfl; (have : who = ((0 : Nat) : Int) := hh; omega); (have : who < 0 := hh; omega); (have : who ≥ (n : Int) := hh; omega)), if_neg (by show ¬ (1 : Int) > 1; omega)]
      unfold ND.kindP
      rw [if_neg (show ¬ (caM who ok).kind = 0 from fun h => absurd (show (1 : Int) = 0 from h) (by decide)), if_pos (show (caM who ok).kind = 1 from rfl)]
    rw [e1] at hr ⊢
    unfold ND.votedP at hr ⊢
    cases ok with
    | false => rw [if_neg (show ¬ (0 < who ∧ who < (n : Int) ∧ false = true) by simp), if_pos (show ¬ (caC n vs).role = 1 ∨ ¬ (caM who false).term = (caC n vs).g.term ∨ (caM who false).ok = false from .inr (.inr rfl))]; exact hs
    | true =>
      have c0 : ¬ (¬ (caC n vs).role = 1 ∨ ¬ (caM who true).term = (caC n vs).g.term ∨ (caM who true).ok = false) := by
        rintro (h | h | h)
        · exact h rfl
        · exact h rfl
        · cases h
      rw [if_neg c0] at hr
      have hvs : (setAdd vs who).Nodup ∧ ∀ i ∈ setAdd vs who, 0 ≤ i ∧ i < (n : Int) := ⟨setAdd_ok h.nd.1 who, fun j hj => by rcases setAdd_mem hj with hj | hj; exact h.nd.2 j hj; omega⟩
      rw [if_neg c0, if_pos (show 0 < who ∧ who < (n : Int) ∧ true = true from ⟨hg.1, hg.2, rfl⟩)]
      by_cases h2 : 2 * ((setAdd vs who).length : Int) > n
      · rw [if_pos (show 2 * ((setAdd (caC n vs).votes (caM who true).frm).length : Int) > (caC n vs).n from h2)] at hr ⊢
        have hw := win_facts { caC n vs with votes := setAdd vs who }
        exact ⟨hr.mono (by omega) (by omega) (by omega), rfl, hw.2.1, hw.2.2, hvs, .inr ⟨hw.1, h2⟩⟩
      · rw [if_neg (show ¬ 2 * ((setAdd (caC n vs).votes (caM who true).frm).length : Int) > (caC n vs).n from h2)] at hr ⊢
        exact ⟨hr.mono (by omega) (by omega) (by omega), rfl, rfl, rfl, hvs, .inl ⟨rfl, h2⟩⟩
  · have e1 : (caC n vs).receiveP (caM who ok) = caC n vs := by
      unfold ND.receiveP
      rw [if_pos]
      by_cases h1 : who = 0
      · exact .inr (.inl (by subst h1; rfl))
      · by_cases h2 : who < 0
        · exact .inr (.inr (.inl h2))
        · exact .inr (.inr (.inr (by show who ≥ (n : Int); omega)))
    rw [e1, if_neg (by omega)]
    exact hs
theorem raftWins_t {R : Hp} (n : Int) (h0 : IntKind.u8.min ≤ n ∧ n ≤ IntKind.u8.max) (v1 : Value) (from_ : List Int) (h1 : slcR 1 (intR .u8) R [v1] from_) (v2 : Value) (ok : List Bool) (h2 : slcR 1 boolR R [v2] ok) :
    Tri Tryz.prog 3 [.int .u8 n, v1, v2] R [] (fun v R' L' => v = .bool true) := by
  obtain ⟨n0, n1⟩ := h0
  obtain ⟨nn, rfl⟩ : ∃ k : Nat, n = (k : Int) := ⟨n.toNat, by have : (0 : Int) ≤ n := n0; omega⟩
  replace n1 : (nn : Int) ≤ 255 := n1
  have hf1 : FrX u8E R (from_.map id) v1 := slcR_frx (T := u8E) id (fun c x hc h => ⟨h.1, h.2.1, h.2.2⟩) h1
  have hf2 : FrX bolE R (ok.map id) v2 := slcR_frx (T := bolE) id (fun c x hc h => h) h2
  rw [List.map_id] at hf1 hf2
  obtain ⟨q1, c1, rfl, hq1, hc1⟩ := hf1.shape
  obtain ⟨q2, c2, rfl, hq2, hc2⟩ := hf2.shape
  refine tri_of Tryz.func3 rfl Tryz.ntmps3 rfl (fun σ F Q hret hend hpan => ?_)
  try simp only [List.cons_append, List.nil_append]
  refine cj_env (eL 0 rfl (eL 1 rfl (eL 2 rfl eN))) ?_
  refine cj_seq (fun K1 hK1 => ?_)
  refine cj_region ?_
  refine rv0 rfl rfl rfl (y_assign rfl) ?_
  refine rj_nil ?_
  refine hK1 _ _ _ ?_
  refine cj_seq (fun K2 hK2 => ?_)
  refine cj_seq (fun K3 hK3 => ?_)
  refine cj_region ?_
  refine rj_call (wn0 rfl) rfl Tryz.call7 rfl (awake_t) (by (repeat (first|exact zN _|(apply zS;focus (repeat (first|exact zH _|apply zT)))))) (fun _ _ _ _ h => h.elim) ?_
  rintro r R1 L' hR1 ⟨rfl, rfl⟩
  try simp only [List.cons_append, List.nil_append]
  refine rv0 rfl rfl rfl (y_not rfl) ?_
  refine rj_nil ?_
  refine hK3 _ _ _ ?_
  refine cj_cond_f rfl ?_
  refine cj_skip ?_
  refine hK2 _ _ _ ?_
  refine cj_env (eL 0 rfl (eL 1 rfl (eL 2 rfl eN))) ?_
  refine cj_seq (fun K4 hK4 => ?_)
  refine cj_seq (fun K5 hK5 => ?_)
  refine cj_region ?_
  refine rv0 rfl rfl rfl (y_move rfl) ?_
  refine rv0 rfl rfl rfl (y_lss rfl rfl) ?_
  refine rv0 rfl rfl rfl (y_move rfl) ?_
  refine rj_part 17 rfl (fun hg17 => ?_) (fun hg17 => ?_)
  ·try simp only [dT, dF, nT, nF, tF, fT] at hg17
   refine rj_skip (wn2 rfl rfl rfl rfl rfl) rfl rfl ?_
   refine rj_skip (wn2 rfl rfl rfl rfl rfl) rfl rfl ?_
   refine rv0 rfl rfl rfl (y_pick_t rfl rfl) ?_
   refine rv0 rfl rfl rfl (y_move rfl) ?_
   refine rj_skip (wn2 rfl rfl rfl rfl rfl) rfl rfl ?_
   refine rj_skip (wn2 rfl rfl rfl rfl rfl) rfl rfl ?_
   refine rj_skip (wn2 rfl rfl rfl rfl rfl) rfl rfl ?_
   refine rv0 rfl rfl rfl (y_pick_t rfl rfl) ?_
   refine rv0 rfl rfl rfl (y_move rfl) ?_
   refine rj_skip (wn2 rfl rfl rfl rfl rfl) rfl rfl ?_
   refine rj_skip (wn2 rfl rfl rfl rfl rfl) rfl rfl ?_
   refine rj_skip (wn2 rfl rfl rfl rfl rfl) rfl rfl ?_
   refine rj_skip (wn2 rfl rfl rfl rfl rfl) rfl rfl ?_
   refine rj_skip (wn2 rfl rfl rfl rfl rfl) rfl rfl ?_
   refine rv0 rfl rfl rfl (y_pick_t rfl rfl) ?_
   refine rj_nil ?_
   refine hK5 _ _ _ ?_
   refine cj_env (eL 0 rfl (eL 1 rfl (eL 2 rfl (eL 32 rfl eN)))) ?_
   refine cj_cond_t rfl ?_
   refine cj_seq (fun K6 hK6 => ?_)
   refine cj_region ?_
   refine rv0 rfl rfl rfl (y_assign rfl) ?_
   refine rj_nil ?_
   refine hK6 _ _ _ ?_
   refine cj_env (eL 6 rfl eN) ?_
   refine cj_ret ?_
   refine hret _ _ _ ?_
   apply ej_ret Tryz.results3 (.cons (rv_tmp rfl) .nil) _ [] (by first | exact hR1 | assumption) rfl
   case hp => exact rfl
   case hS => (repeat (first|exact zR _|(apply zP;focus (repeat (first|exact zH _|apply zT)))|apply zD|exact zA _ _))
  ·have f1 : ¬ (nn : Int) < 2 := by simpa using hg17
   refine rj_val (wn1 rfl rfl rfl rfl) rfl rfl (y_move rfl) ?_
   refine rj_val (wn1 rfl rfl rfl rfl) rfl rfl (y_gtr rfl rfl) ?_
   refine rv0 rfl rfl rfl (y_pick_f rfl rfl) ?_
   refine rv0 rfl rfl rfl (y_move rfl) ?_
   refine rj_part 21 rfl (fun hg21 => ?_) (fun hg21 => ?_)
   ·try simp only [dT, dF, nT, nF, tF, fT] at hg21
    refine rj_skip (wn2 rfl rfl rfl rfl rfl) rfl rfl ?_
    refine rj_skip (wn2 rfl rfl rfl rfl rfl) rfl rfl ?_
    refine rj_skip (wn2 rfl rfl rfl rfl rfl) rfl rfl ?_
    refine rv0 rfl rfl rfl (y_pick_t rfl rfl) ?_
    refine rv0 rfl rfl rfl (y_move rfl) ?_
    refine rj_skip (wn2 rfl rfl rfl rfl rfl) rfl rfl ?_
    refine rj_skip (wn2 rfl rfl rfl rfl rfl) rfl rfl ?_
    refine rj_skip (wn2 rfl rfl rfl rfl rfl) rfl rfl ?_
    refine rj_skip (wn2 rfl rfl rfl rfl rfl) rfl rfl ?_
    refine rj_skip (wn2 rfl rfl rfl rfl rfl) rfl rfl ?_
    refine rv0 rfl rfl rfl (y_pick_t rfl rfl) ?_
    refine rj_nil ?_
    refine hK5 _ _ _ ?_
    refine cj_env (eL 0 rfl (eL 1 rfl (eL 2 rfl (eL 32 rfl eN)))) ?_
    refine cj_cond_t rfl ?_
    refine cj_seq (fun K7 hK7 => ?_)
    refine cj_region ?_
    refine rv0 rfl rfl rfl (y_assign rfl) ?_
    refine rj_nil ?_
    refine hK7 _ _ _ ?_
    refine cj_env (eL 6 rfl eN) ?_
    refine cj_ret ?_
    refine hret _ _ _ ?_
    apply ej_ret Tryz.results3 (.cons (rv_tmp rfl) .nil) _ [] (by first | exact hR1 | assumption) rfl
    case hp => exact rfl
    case hS => (repeat (first|exact zR _|(apply zP;focus (repeat (first|exact zH _|apply zT)))|apply zD|exact zA _ _))
   ·first|(have f2 : ¬ (nn : Int) > 9 := by simpa using hg21)|skip
    refine rj_val (wn1 rfl rfl rfl rfl) rfl rfl (y_move rfl) ?_
    first | refine rj_val (wn1 rfl rfl rfl rfl) rfl rfl (y_len_sl Tryz.underlying22 rfl) ?_ | refine rj_val (wn1 rfl rfl rfl rfl) rfl rfl (y_len_slc Tryz.underlying22 rfl (by (repeat (first|exact zH _|apply zT));done)) ?_
    refine rj_val (wn1 rfl rfl rfl rfl) rfl rfl (y_gtr rfl rfl) ?_
    refine rv0 rfl rfl rfl (y_pick_f rfl rfl) ?_
    refine rv0 rfl rfl rfl (y_move rfl) ?_
    refine rj_part 26 rfl (fun hg26 => ?_) (fun hg26 => ?_)
    ·try simp only [dT, dF, nT, nF, tF, fT] at hg26
     refine rj_skip (wn2 rfl rfl rfl rfl rfl) rfl rfl ?_
     refine rj_skip (wn2 rfl rfl rfl rfl rfl) rfl rfl ?_
     refine rj_skip (wn2 rfl rfl rfl rfl rfl) rfl rfl ?_
     refine rj_skip (wn2 rfl rfl rfl rfl rfl) rfl rfl ?_
     refine rj_skip (wn2 rfl rfl rfl rfl rfl) rfl rfl ?_
     refine rv0 rfl rfl rfl (y_pick_t rfl rfl) ?_
     refine rj_nil ?_
     refine hK5 _ _ _ ?_
     refine cj_env (eL 0 rfl (eL 1 rfl (eL 2 rfl (eL 32 rfl eN)))) ?_
     refine cj_cond_t rfl ?_
     refine cj_seq (fun K8 hK8 => ?_)
     refine cj_region ?_
     refine rv0 rfl rfl rfl (y_assign rfl) ?_
     refine rj_nil ?_
     refine hK8 _ _ _ ?_
     refine cj_env (eL 6 rfl eN) ?_
     refine cj_ret ?_
     refine hret _ _ _ ?_
     apply ej_ret Tryz.results3 (.cons (rv_tmp rfl) .nil) _ [] (by first | exact hR1 | assumption) rfl
     case hp => exact rfl
     case hS => (repeat (first|exact zR _|(apply zP;focus (repeat (first|exact zH _|apply zT)))|apply zD|exact zA _ _))
    ·first|(have f3 : ¬ (from_.length : Int) > 40 := by simpa using hg26)|skip
     refine rj_val (wn1 rfl rfl rfl rfl) rfl rfl (y_move rfl) ?_
     first | refine rj_val (wn1 rfl rfl rfl rfl) rfl rfl (y_len_sl Tryz.underlying23 rfl) ?_ | refine rj_val (wn1 rfl rfl rfl rfl) rfl rfl (y_len_slc Tryz.underlying23 rfl (by (repeat (first|exact zH _|apply zT));done)) ?_
     refine rj_val (wn1 rfl rfl rfl rfl) rfl rfl (y_move rfl) ?_
     first | refine rj_val (wn1 rfl rfl rfl rfl) rfl rfl (y_len_sl Tryz.underlying22 rfl) ?_ | refine rj_val (wn1 rfl rfl rfl rfl) rfl rfl (y_len_slc Tryz.underlying22 rfl (by (repeat (first|exact zH _|apply zT));done)) ?_
     refine rj_val (wn1 rfl rfl rfl rfl) rfl rfl (y_lss rfl rfl) ?_
     refine rv0 rfl rfl rfl (y_pick_f rfl rfl) ?_
     refine rj_nil ?_
     refine hK5 _ _ _ ?_
     refine cj_env (eL 0 rfl (eL 1 rfl (eL 2 rfl (eL 32 rfl eN)))) ?_
     refine cj_cond rfl (fun hc32 => ?_) (fun hc32 => ?_)
     ·try simp only [dT, dF, nT, nF, tF, fT] at hc32
      refine cj_seq (fun K10 hK10 => ?_)
      refine cj_region ?_
      refine rv0 rfl rfl rfl (y_assign rfl) ?_
      refine rj_nil ?_
      refine hK10 _ _ _ ?_
      refine cj_env (eL 6 rfl eN) ?_
      refine cj_ret ?_
      refine hret _ _ _ ?_
      apply ej_ret Tryz.results3 (.cons (rv_tmp rfl) .nil) _ [] (by first | exact hR1 | assumption) rfl
      case hp => exact rfl
      case hS => (repeat (first|exact zR _|(apply zP;focus (repeat (first|exact zH _|apply zT)))|apply zD|exact zA _ _))
     ·first|(have f4 : ¬ (ok.length : Int) < from_.length := by simpa using hc32)|skip
      refine cj_skip ?_
      refine hK4 _ _ _ ?_
      refine cj_seq (fun K11 hK11 => ?_)
      refine cj_region ?_
      refine rv0 rfl rfl rfl (y_move rfl) ?_
      refine rv0 rfl rfl rfl ((y_conv_in Tryz.underlying5 Tryz.underlying3 rfl (by (simp only [IntKind.min, IntKind.max, IntKind.signed, IntKind.bits, Bool.false_eq_true, ite_false, ite_true]; omega)))) ?_
      refine rj_call (wn0 rfl) rfl Tryz.call8 rfl (lnStart0_t nn (by omega)) (by (repeat (first|exact zN _|(apply zS;focus (repeat (first|exact zH _|apply zT)))))) (fun _ _ _ _ h => h.elim) ?_
      rintro r R2 L' hR2 ⟨bp, b, v, w, rfl, hv, hw, rfl⟩
      have hn29 : 2 ≤ nn ∧ nn ≤ 9 := by omega
      try simp only [List.cons_append, List.nil_append]
      refine rv0 rfl rfl rfl (y_move rfl) ?_
      refine rv0 rfl rfl rfl (y_extract rfl rfl) ?_
      refine rv0 rfl rfl rfl (y_extract rfl rfl) ?_
      refine rv0 rfl rfl rfl (y_assign rfl) ?_
      refine rv0 rfl rfl rfl (y_assign rfl) ?_
      refine rj_nil ?_
      refine hK11 _ _ _ ?_
      refine cj_env (eL 0 rfl (eL 1 rfl (eL 2 rfl (eL 7 rfl (eL 8 rfl eN))))) ?_
      refine cj_seq (fun K12 hK12 => ?_)
      refine cj_seq (fun K13 hK13 => ?_)
      refine cj_region ?_
      refine rv0 rfl rfl rfl (y_move rfl) ?_
      refine rv0 rfl rfl rfl (y_not rfl) ?_
      refine rj_nil ?_
      refine hK13 _ _ _ ?_
      refine cj_cond_f rfl ?_
      refine cj_skip ?_
      refine hK12 _ _ _ ?_
      refine cj_env (eL 0 rfl (eL 1 rfl (eL 2 rfl (eL 7 rfl eN)))) ?_
      refine cj_seq (fun K14 hK14 => ?_)
      refine cj_seq (fun K15 hK15 => ?_)
      refine cj_region ?_
      refine rv0 rfl rfl rfl (y_move rfl) ?_
      refine rj_nil ?_
      refine hK15 _ _ _ ?_
      refine cj_block ?_
      refine cj_env (E' := (fun (x1 : Nat × NV × DK × Hp) => [(0, .int .u8 (nn : Int)), (1, .slice q1 from_.length c1), (2, .slice q2 ok.length c2), (7, .pointer (some ⟨bp, 0, none⟩)), (41, .int .i64 (x1.1 : Int))]) (0, v, DK.new, R2)) (eC rfl (eC rfl (eC rfl (eC rfl (eC rfl eN))))) ?_
      refine cj_sub (M := (fun (x1 : Nat × NV × DK × Hp) => lnB bp b.d b.x w (ND.start 0 nn LG.new) :: ndB b x1.2.1 (caS nn x1.1) :: lgN b x1.2.1 (caS nn x1.1) :: dkB b.d x1.2.1.u x1.2.2.1 :: dkS x1.2.1.u x1.2.2.1 :: prA x1.2.1 (caS nn x1.1) :: mpA x1.2.1.vm (caS nn x1.1).votes :: F) (0, v, DK.new, R2)) (by (repeat (first|exact zR _|(apply zP;focus (repeat (first|exact zH _|apply zT)))|apply zD|exact zA _ _))) ?_
      refine cj_loop (fun (x1 : Nat × NV × DK × Hp) => [(0, .int .u8 (nn : Int)), (1, .slice q1 from_.length c1), (2, .slice q2 ok.length c2), (7, .pointer (some ⟨bp, 0, none⟩)), (41, .int .i64 (x1.1 : Int))]) (fun (x1 : Nat × NV × DK × Hp) => x1.2.2.2) (fun (x1 : Nat × NV × DK × Hp) => lnB bp b.d b.x w (ND.start 0 nn LG.new) :: ndB b x1.2.1 (caS nn x1.1) :: lgN b x1.2.1 (caS nn x1.1) :: dkB b.d x1.2.1.u x1.2.2.1 :: dkS x1.2.1.u x1.2.2.1 :: prA x1.2.1 (caS nn x1.1) :: mpA x1.2.1.vm (caS nn x1.1).votes :: F) (fun (x1 : Nat × NV × DK × Hp) => x1.1 ≤ 9 ∧ NOk x1.2.2.2 x1.2.1 (caS nn x1.1) ∧ LD (6000 * x1.1) (caS nn x1.1).g x1.2.2.1 ∧ R2.le x1.2.2.2) (fun (x1 : Nat × NV × DK × Hp) => 10 - x1.1) (0, v, DK.new, R2) (⟨by simp, hv, LD.new, Hp.le_refl _⟩) ?_
      rintro ⟨j, v3, D3, R3⟩ ⟨hj, hv3, hD3, hR3⟩
      try dsimp only
      dsimp only at hj hv3 hD3 hR3
      refine cj_seq (fun K16 hK16 => ?_)
      refine cj_region ?_
      refine rv0 rfl rfl rfl (y_lss rfl rfl) ?_
      refine rj_nil ?_
      refine hK16 _ _ _ ?_
      refine cj_seq (fun K17 hK17 => ?_)
      refine cj_cond rfl (fun hc42 => ?_) (fun hc42 => ?_)
      ·try simp only [dT, dF, nT, nF, tF, fT] at hc42
       refine cj_skip ?_
       refine hK17 _ _ _ ?_
       refine cj_seq (fun K19 hK19 => ?_)
       refine cj_block ?_
       refine cj_seq (fun K20 hK20 => ?_)
       refine cj_region ?_
       refine rv0 rfl rfl rfl (y_move rfl) ?_
       refine rv0 rfl rfl rfl (y_nilCheck rfl) ?_
       refine rv0 rfl rfl rfl (y_fieldAddr (k := 1) Tryz.underlying39 rfl (n := 1) (by decide) Tryz.sizeOf30 rfl) ?_
       first | refine rv0 rfl rfl rfl (y_load ⟨Tryz.isAgg30, Tryz.sizeOf30⟩ rfl (by (repeat (first|exact zH _|apply zT));done) rfl) ?_ | refine rv0 rfl rfl rfl (y_load_slc ⟨Tryz.isAgg30, Tryz.sizeOf30⟩ rfl (by (repeat (first|exact zH _|apply zT));done) rfl) ?_
       refine rj_call (wn0 rfl) rfl Tryz.call9 rfl (tickOK_t b v3 (caS nn j) D3 (6000 * j) (ca_in (by omega) hj) rfl (by unfold BB; omega) hv3 hD3 (by omega)) (by (repeat (first|exact zN _|(apply zS;focus (repeat (first|exact zH _|apply zT)))))) (fun _ _ _ _ h => h.elim) ?_
       rintro r R5 L' hR5 ⟨hvl, v5, D5, hv5, hD5, rfl⟩
       obtain ⟨y, hy⟩ : ∃ y, y = (caS nn j).tickP.q := ⟨_, rfl⟩
       replace hD5 : LD (6000 * j + 6000) y.g D5 := by rw [hy]; exact hD5
       rw [← hy] at hv5 ⊢
       try simp only [List.cons_append, List.nil_append]
       refine rj_nil ?_
       refine hK20 _ _ _ ?_
       refine cj_env (eL 0 rfl (eL 1 rfl (eL 2 rfl (eL 7 rfl (eL 41 rfl eN))))) ?_
       refine cj_seq (fun K21 hK21 => ?_)
       refine cj_region ?_
       refine rv0 rfl rfl rfl (y_move rfl) ?_
       refine rv0 rfl rfl rfl (y_nilCheck rfl) ?_
       refine rv0 rfl rfl rfl (y_fieldAddr (k := 1) Tryz.underlying39 rfl (n := 1) (by decide) Tryz.sizeOf30 rfl) ?_
       first | refine rv0 rfl rfl rfl (y_load ⟨Tryz.isAgg30, Tryz.sizeOf30⟩ rfl (by (repeat (first|exact zH _|apply zT));done) rfl) ?_ | refine rv0 rfl rfl rfl (y_load_slc ⟨Tryz.isAgg30, Tryz.sizeOf30⟩ rfl (by (repeat (first|exact zH _|apply zT));done) rfl) ?_
       refine rv0 rfl rfl rfl (y_call Tryz.call10 rfl (ndRole_q b v5 y) (by (repeat (first|exact zN _|(apply zS;focus (repeat (first|exact zH _|apply zT))))))) ?_
       refine rv0 rfl rfl rfl (y_eql rfl rfl) ?_
       refine rj_nil ?_
       refine hK21 _ _ _ ?_
       refine cj_env (eL 0 rfl (eL 1 rfl (eL 2 rfl (eL 7 rfl (eL 41 rfl (eL 53 rfl eN)))))) ?_
       refine cj_cond rfl (fun hc53 => ?_) (fun hc53 => ?_)
       ·obtain rfl : j = 9 := by (by_cases h : j = 9; exact h; exfalso; rw [hy, ca_step (by omega)] at hc53; simp [caS, ND.start] at hc53)
        rw [ca_stand (by omega)] at hy
        subst hy
        have hRW0 := RW1.start hn29
        refine cj_exit ?_
        refine hK14 _ _ _ ?_
        refine cj_seq (fun K23 hK23 => ?_)
        refine cj_region ?_
        refine rj_makeMap (ik := .i64) (wn0 rfl) rfl (fun bm => ?_)
        refine rj_insert Tryz.underlying42 Tryz.underlying3 (wn0 rfl) rfl rfl rfl (by (repeat (first|exact zH _|apply zT));done) ?_
        refine rv0 rfl rfl rfl (y_move rfl) ?_
        refine rv0 rfl rfl rfl (y_assign rfl) ?_
        refine rj_nil ?_
        refine hK23 _ _ _ ?_
        refine cj_env (eL 0 rfl (eL 1 rfl (eL 2 rfl (eL 7 rfl (eL 9 rfl eN))))) ?_
        refine cj_seq (fun K24 hK24 => ?_)
        refine cj_seq (fun K25 hK25 => ?_)
        refine cj_region ?_
        refine rj_turn (A := mapF bm .i64 (fset (fun _ => none) 0 (.bool true)) (if ((fun _ => none : Int → Option Value) 0).isSome then 0 else 0 + 1)) (B := mapF bm .i64 (votesF [0]) 1) (by (repeat (first|exact zH _|apply zT));done) (fun h hh => by rw [votesF_one] at hh; exact hh) ?_
        refine rv0 rfl rfl rfl (y_move rfl) ?_
        first | refine rv0 rfl rfl rfl (y_len_sl Tryz.underlying22 rfl) ?_ | refine rv0 rfl rfl rfl (y_len_slc Tryz.underlying22 rfl (by (repeat (first|exact zH _|apply zT));done)) ?_
        refine rv0 rfl rfl rfl (y_move rfl) ?_
        refine rj_nil ?_
        refine hK25 _ _ _ ?_
        refine cj_block ?_
        refine cj_env (E' := (fun (x2 : Nat × List Int × NV × DK × Hp × ND) => [(0, .int .u8 (nn : Int)), (2, .slice q2 ok.length c2), (7, .pointer (some ⟨bp, 0, none⟩)), (9, .map (some bm)), (57, .slice q1 from_.length c1), (58, .int .i64 (from_.length : Int)), (59, .int .i64 (x2.1 : Int))]) (0, [0], v5, D5, R5, caC nn [0])) (eC rfl (eC rfl (eC rfl (eC rfl (eC rfl (eC rfl (eC rfl eN))))))) ?_
        refine cj_sub (M := (fun (x2 : Nat × List Int × NV × DK × Hp × ND) => lnB bp b.d b.x w (ND.start 0 nn LG.new) :: ndB b x2.2.2.1 x2.2.2.2.2.2 :: lgN b x2.2.2.1 x2.2.2.2.2.2 :: dkB b.d x2.2.2.1.u x2.2.2.2.1 :: dkS x2.2.2.1.u x2.2.2.2.1 :: prA x2.2.2.1 x2.2.2.2.2.2 :: mpA x2.2.2.1.vm x2.2.2.2.2.2.votes :: mapF bm .i64 (votesF x2.2.1) x2.2.1.length :: F) (0, [0], v5, D5, R5, caC nn [0])) (by (repeat (first|exact zR _|(apply zP;focus (repeat (first|exact zH _|apply zT)))|apply zD|exact zA _ _))) ?_
        refine cj_loop (fun (x2 : Nat × List Int × NV × DK × Hp × ND) => [(0, .int .u8 (nn : Int)), (2, .slice q2 ok.length c2), (7, .pointer (some ⟨bp, 0, none⟩)), (9, .map (some bm)), (57, .slice q1 from_.length c1), (58, .int .i64 (from_.length : Int)), (59, .int .i64 (x2.1 : Int))]) (fun (x2 : Nat × List Int × NV × DK × Hp × ND) => x2.2.2.2.2.1) (fun (x2 : Nat × List Int × NV × DK × Hp × ND) => lnB bp b.d b.x w (ND.start 0 nn LG.new) :: ndB b x2.2.2.1 x2.2.2.2.2.2 :: lgN b x2.2.2.1 x2.2.2.2.2.2 :: dkB b.d x2.2.2.1.u x2.2.2.2.1 :: dkS x2.2.2.1.u x2.2.2.2.1 :: prA x2.2.2.1 x2.2.2.2.2.2 :: mpA x2.2.2.1.vm x2.2.2.2.2.2.votes :: mapF bm .i64 (votesF x2.2.1) x2.2.1.length :: F) (fun (x2 : Nat × List Int × NV × DK × Hp × ND) => x2.1 ≤ from_.length ∧ NOk x2.2.2.2.2.1 x2.2.2.1 x2.2.2.2.2.2 ∧ LD (17000000 + 6000 * x2.1) x2.2.2.2.2.2.g x2.2.2.2.1 ∧ R5.le x2.2.2.2.2.1 ∧ RW1 nn x2.2.1 x2.2.2.2.2.2) (fun (x2 : Nat × List Int × NV × DK × Hp × ND) => from_.length - x2.1) (0, [0], v5, D5, R5, caC nn [0]) (⟨by simp, hv5, LD.mono2 hD5 (by omega), Hp.le_refl _, hRW0⟩) ?_
        rintro ⟨i, vs, v6, D6, R6, y⟩ ⟨hi, hv6, hD6, hR6, hy6⟩
        try dsimp only
        dsimp only at hi hv6 hD6 hR6 hy6
        refine cj_seq (fun K26 hK26 => ?_)
        refine cj_region ?_
        refine rv0 rfl rfl rfl (y_lss rfl rfl) ?_
        refine rj_nil ?_
        refine hK26 _ _ _ ?_
        refine cj_seq (fun K27 hK27 => ?_)
        refine cj_cond rfl (fun hc60 => ?_) (fun hc60 => ?_)
        ·try simp only [dT, dF, nT, nF, tF, fT] at hc60
         refine cj_skip ?_
         refine hK27 _ _ _ ?_
         refine cj_seq (fun K29 hK29 => ?_)
         refine cj_block ?_
         refine cj_seq (fun K30 hK30 => ?_)
         refine cj_region ?_
         have hi2 : i < from_.length := by (try simp at hc60); omega
         obtain ⟨f, hf⟩ : ∃ f, from_[i]? = some f := ⟨_, List.getElem?_eq_getElem hi2⟩
         obtain ⟨bo, hbo⟩ : ∃ f, ok[i]? = some f := ⟨_, List.getElem?_eq_getElem (by omega)⟩
         have hR06 := Hp.le_trans hR1 (Hp.le_trans hR2 (Hp.le_trans hR3 (Hp.le_trans hR5 hR6)))
         obtain ⟨be, oe, ce, cse, hee, ⟨rfl, hf0, hf9⟩, _, hcell⟩ := (hf1.mono hR06).at hf
         obtain ⟨rfl, rfl⟩ : q1 = some ⟨be, oe, none⟩ ∧ c1 = ce := by cases hee; exact ⟨rfl, rfl⟩
         obtain ⟨bk, ok2, ck, csk, hek, rfl, _, hcelk⟩ := (hf2.mono hR06).at hbo
         obtain ⟨rfl, rfl⟩ : q2 = some ⟨bk, ok2, none⟩ ∧ c2 = ck := by cases hek; exact ⟨rfl, rfl⟩
         replace hcell : Hp.cell R6 ⟨be, oe + i * 1, none⟩ = some (.int .u8 f) := hcell 0 _ rfl
         replace hcelk : Hp.cell R6 ⟨bk, ok2 + i * 1, none⟩ = some (.bool bo) := hcelk 0 _ rfl
         obtain ⟨who, hwho⟩ : ∃ who, who = f % ((nn : Int) + 1) := ⟨_, rfl⟩
         have hw0 : 0 ≤ who := by rw [hwho]; exact Int.emod_nonneg _ (by omega)
         have hw9 : who < (nn : Int) + 1 := by rw [hwho]; exact Int.emod_lt_of_pos _ (by omega)
         refine rv0 rfl rfl rfl (y_move rfl) ?_
         first | refine rv0 rfl rfl rfl (y_indexAddr Tryz.underlying22 Tryz.sizeOf5 rfl rfl (by (first | omega | (dsimp only; omega) | (simp; done) | (simp; omega)))) ?_ | refine rv0 rfl rfl rfl (y_index_slc Tryz.underlying22 Tryz.sizeOf5 rfl rfl (by (repeat (first|exact zH _|apply zT));done) (by (first | omega | (dsimp only; omega) | (simp; done) | (simp; omega)))) ?_
         refine rv0 rfl rfl rfl ((y_load_ro ⟨Tryz.isAgg5, Tryz.sizeOf5⟩ rfl (by rw [show ((i : Nat) : Int).toNat = i by simp]; exact hcell))) ?_
         refine rv0 rfl rfl rfl (y_assign rfl) ?_
         refine rv0 rfl rfl rfl (y_assign rfl) ?_
         refine rj_nil ?_
         refine hK30 _ _ _ ?_
         refine cj_env (eL 0 rfl (eL 2 rfl (eL 7 rfl (eL 9 rfl (eL 10 rfl (eL 11 rfl (eL 57 rfl (eL 58 rfl (eL 59 rfl eN))))))))) ?_
         refine cj_seq (fun K31 hK31 => ?_)
         refine cj_seq (fun K32 hK32 => ?_)
         refine cj_region ?_
         refine rv0 rfl rfl rfl (y_move rfl) ?_
         refine rv0 rfl rfl rfl (y_nilCheck rfl) ?_
         refine rv0 rfl rfl rfl (y_fieldAddr (k := 1) Tryz.underlying39 rfl (n := 1) (by decide) Tryz.sizeOf30 rfl) ?_
         first | refine rv0 rfl rfl rfl (y_load ⟨Tryz.isAgg30, Tryz.sizeOf30⟩ rfl (by (repeat (first|exact zH _|apply zT));done) rfl) ?_ | refine rv0 rfl rfl rfl (y_load_slc ⟨Tryz.isAgg30, Tryz.sizeOf30⟩ rfl (by (repeat (first|exact zH _|apply zT));done) rfl) ?_
         refine rv0 rfl rfl rfl (y_call Tryz.call10 rfl (ndRole_q b v6 y) (by (repeat (first|exact zN _|(apply zS;focus (repeat (first|exact zH _|apply zT))))))) ?_
         refine rv0 rfl rfl rfl (y_neq rfl rfl) ?_
         refine rj_nil ?_
         refine hK32 _ _ _ ?_
         refine cj_env (eL 0 rfl (eL 2 rfl (eL 7 rfl (eL 9 rfl (eL 10 rfl (eL 11 rfl (eL 57 rfl (eL 58 rfl (eL 59 rfl (eL 69 rfl eN)))))))))) ?_
         refine cj_cond rfl (fun hc69 => ?_) (fun hc69 => ?_)
         ·try simp only [dT, dF, nT, nF, tF, fT] at hc69
          refine cj_exit ?_
          refine hK24 _ _ _ ?_
          refine cj_env (eL 7 rfl eN) ?_
          refine cj_seq (fun K34 hK34 => ?_)
          refine cj_region ?_
          have hR06 := Hp.le_trans hR1 (Hp.le_trans hR2 (Hp.le_trans hR3 (Hp.le_trans hR5 hR6)))
          have hyg : y.g.ok := (hy6.inn.nin0 (by unfold BB; omega) hy6.out).g (by omega)
          refine rv0 rfl rfl rfl (y_move rfl) ?_
          refine rv0 rfl rfl rfl (y_nilCheck rfl) ?_
          refine rv0 rfl rfl rfl (y_fieldAddr (k := 1) Tryz.underlying39 rfl (n := 1) (by decide) Tryz.sizeOf30 rfl) ?_
          first | refine rv0 rfl rfl rfl (y_load ⟨Tryz.isAgg30, Tryz.sizeOf30⟩ rfl (by (repeat (first|exact zH _|apply zT));done) rfl) ?_ | refine rv0 rfl rfl rfl (y_load_slc ⟨Tryz.isAgg30, Tryz.sizeOf30⟩ rfl (by (repeat (first|exact zH _|apply zT));done) rfl) ?_
          refine rv0 rfl rfl rfl (y_call Tryz.call12 rfl (ndLog_q b v6 y) (by (repeat (first|exact zN _|(apply zS;focus (repeat (first|exact zH _|apply zT))))))) ?_
          refine rv0 rfl rfl rfl (y_call Tryz.call13 rfl ((lgTerm_q b.l (some ⟨b.d, 0, none⟩) v6.va y.g).eq2 (v' := .int .u64 1) (by rw [hy6.term])) (by (repeat (first|exact zN _|(apply zS;focus (repeat (first|exact zH _|apply zT))))))) ?_
          refine rv0 rfl rfl rfl (y_eql rfl rfl) ?_
          refine rv0 rfl rfl rfl (y_move rfl) ?_
          refine rj_val (wn1 rfl rfl rfl rfl) rfl rfl (y_move rfl) ?_
          refine rj_val (wn1 rfl rfl rfl rfl) rfl rfl (y_nilCheck rfl) ?_
          refine rj_val (wn1 rfl rfl rfl rfl) rfl rfl (y_fieldAddr (k := 1) Tryz.underlying39 rfl (n := 1) (by decide) Tryz.sizeOf30 rfl) ?_
          first | refine rj_val (wn1 rfl rfl rfl rfl) rfl rfl (y_load ⟨Tryz.isAgg30, Tryz.sizeOf30⟩ rfl (by (repeat (first|exact zH _|apply zT));done) rfl) ?_ | refine rj_val (wn1 rfl rfl rfl rfl) rfl rfl (y_load_slc ⟨Tryz.isAgg30, Tryz.sizeOf30⟩ rfl (by (repeat (first|exact zH _|apply zT));done) rfl) ?_
          refine rj_val (wn1 rfl rfl rfl rfl) rfl rfl (y_call Tryz.call12 rfl (ndLog_q b v6 y) (by (repeat (first|exact zN _|(apply zS;focus (repeat (first|exact zH _|apply zT))))))) ?_
          refine rj_val (wn1 rfl rfl rfl rfl) rfl rfl (y_call Tryz.call14 rfl ((lgVote_q b.l (some ⟨b.d, 0, none⟩) v6.va y.g).eq2 (v' := .int .i64 0) (by rw [hy6.vote])) (by (repeat (first|exact zN _|(apply zS;focus (repeat (first|exact zH _|apply zT))))))) ?_
          refine rj_val (wn1 rfl rfl rfl rfl) rfl rfl (y_eql rfl rfl) ?_
          refine rv0 rfl rfl rfl (y_pick_t rfl rfl) ?_
          refine rv0 rfl rfl rfl (y_assign rfl) ?_
          refine rj_nil ?_
          refine hK34 _ _ _ ?_
          refine cj_env (eL 6 rfl eN) ?_
          refine cj_ret ?_
          refine hret _ _ _ ?_
          apply ej_ret Tryz.results3 (.cons (rv_tmp rfl) .nil) _ [] (by first | exact hR1 | assumption) rfl
          case hp => exact rfl
          case hS => (repeat (first|exact zR _|(apply zP;focus (repeat (first|exact zH _|apply zT)))|apply zD|exact zA _ _))
         ·have hr1 : y.role = 1 := by simpa using hc69
          obtain rfl := hy6.cand hr1
          have hyin : LIn 1 1 1 (caC nn vs) := caC_in (by omega) hy6.nd
          have hyg : (caC nn vs).g.ok := (hyin.nin0 (by unfold BB; omega) rfl).g (by omega)
          refine cj_skip ?_
          refine hK31 _ _ _ ?_
          refine cj_seq (fun K35 hK35 => ?_)
          refine cj_region ?_
          refine rv0 rfl rfl rfl (y_move rfl) ?_
          refine rv0 rfl rfl rfl (y_move rfl) ?_
          refine rv0 rfl rfl rfl ((Yld.to (u := .int .u8 ((nn : Int) + 1)) (y_add rfl rfl) (by rw [wrap_in (by (simp only [IntKind.min, IntKind.max, IntKind.signed, IntKind.bits, Bool.false_eq_true, ite_false, ite_true]; omega))]))) ?_
          refine rv0 rfl rfl rfl ((Yld.to (u := .int .u8 who) (y_rem rfl rfl (by omega)) (by rw [Int.tmod_eq_emod_of_nonneg (by omega), hwho]))) ?_
          refine rv0 rfl rfl rfl ((y_conv_in Tryz.underlying5 Tryz.underlying3 rfl (by (simp only [IntKind.min, IntKind.max, IntKind.signed, IntKind.bits, Bool.false_eq_true, ite_false, ite_true]; omega)))) ?_
          refine rv0 rfl rfl rfl ((Yld.to (u := .int .i64 who) (y_rem rfl rfl (by decide)) (by rw [Int.tmod_eq_emod_of_nonneg (by omega), Int.emod_eq_of_lt (by omega) (by omega)]))) ?_
          refine rv0 rfl rfl rfl (y_assign rfl) ?_
          refine rj_nil ?_
          refine hK35 _ _ _ ?_
          refine cj_env (eL 0 rfl (eL 2 rfl (eL 7 rfl (eL 9 rfl (eL 10 rfl (eL 12 rfl (eL 57 rfl (eL 58 rfl (eL 59 rfl eN))))))))) ?_
          refine cj_seq (fun K36 hK36 => ?_)
          refine cj_mix [0, 1, 2, 3, 4, 5, 6, 7, 8, 9, 10, 11, 12, 13, 14, 15] [] [16] (by kernel_rfl) (by kernel_rfl) (by kernel_rfl) rfl ?_
          refine fj_val rfl rfl rfl (wn0 rfl) (fun R1 hR1 G => (y_move rfl)) ?_
          refine fj_val rfl rfl rfl (wn0 rfl) (fun R1 hR1 G => (y_nilCheck rfl)) ?_
          refine fj_val rfl rfl rfl (wn0 rfl) (fun R1 hR1 G => (y_fieldAddr (k := 1) Tryz.underlying39 rfl (n := 1) (by decide) Tryz.sizeOf30 rfl)) ?_
          first | refine fj_val rfl rfl rfl (wn0 rfl) (fun R1 hR1 G => (y_load ⟨Tryz.isAgg30, Tryz.sizeOf30⟩ rfl (by (repeat (first|exact zH _|apply zT));done) rfl)) ?_ | refine fj_val rfl rfl rfl (wn0 rfl) (fun R1 hR1 G => (y_load_slc ⟨Tryz.isAgg30, Tryz.sizeOf30⟩ rfl (by (repeat (first|exact zH _|apply zT));done) rfl)) ?_
          refine fj_val rfl rfl rfl (wn0 rfl) (fun R1 hR1 G => (y_move rfl)) ?_
          refine fj_val rfl rfl rfl (wn0 rfl) (fun R1 hR1 G => (y_move rfl)) ?_
          refine fj_val rfl rfl rfl (wn0 rfl) (fun R1 hR1 G => (y_nilCheck rfl)) ?_
          refine fj_val rfl rfl rfl (wn0 rfl) (fun R1 hR1 G => (y_fieldAddr (k := 1) Tryz.underlying39 rfl (n := 1) (by decide) Tryz.sizeOf30 rfl)) ?_
          first | refine fj_val rfl rfl rfl (wn0 rfl) (fun R1 hR1 G => (y_load ⟨Tryz.isAgg30, Tryz.sizeOf30⟩ rfl (by (repeat (first|exact zH _|apply zT));done) rfl)) ?_ | refine fj_val rfl rfl rfl (wn0 rfl) (fun R1 hR1 G => (y_load_slc ⟨Tryz.isAgg30, Tryz.sizeOf30⟩ rfl (by (repeat (first|exact zH _|apply zT));done) rfl)) ?_
          refine fj_val rfl rfl rfl (wn0 rfl) (fun R1 hR1 G => (y_call Tryz.call12 rfl (ndLog_q b v6 (caC nn vs)) (by (repeat (first|exact zN _|(apply zS;focus (repeat (first|exact zH _|apply zT)))))))) ?_
          refine fj_val rfl rfl rfl (wn0 rfl) (fun R1 hR1 G => (y_call Tryz.call13 rfl ((lgTerm_q b.l (some ⟨b.d, 0, none⟩) v6.va (caC nn vs).g).eq2 (v' := .int .u64 1) rfl) (by (repeat (first|exact zN _|(apply zS;focus (repeat (first|exact zH _|apply zT)))))))) ?_
          refine fj_val rfl rfl rfl (wn0 rfl) (fun R1 hR1 G => (y_move rfl)) ?_
          refine fj_val rfl rfl rfl (wn0 rfl) (fun R1 hR1 G => (y_move rfl)) ?_
          first | refine fj_val rfl rfl rfl (wn0 rfl) (fun R1 hR1 G => (y_indexAddr Tryz.underlying23 Tryz.sizeOf4 rfl rfl (by (first | omega | (dsimp only; omega) | (simp; done) | (simp; omega))))) ?_ | refine fj_val rfl rfl rfl (wn0 rfl) (fun R1 hR1 G => (y_index_slc Tryz.underlying23 Tryz.sizeOf4 rfl rfl (by (repeat (first|exact zH _|apply zT));done) (by (first | omega | (dsimp only; omega) | (simp; done) | (simp; omega))))) ?_
          refine fj_val rfl rfl rfl (wn0 rfl) (fun R1 hR1 G => (y_load_ro ⟨Tryz.isAgg4, Tryz.sizeOf4⟩ rfl (by rw [show ((i : Nat) : Int).toNat = i by simp]; exact cell_mono hR1 hcelk))) ?_
          refine fj_val rfl rfl rfl (wn0 rfl) (fun R1 hR1 G => (y_build (cells := [_, _, _, _, _, _, _, _, _, _]) [(0, 1), (1, 1), (2, 1), (3, 1), (4, 1), (5, 1), (6, 1), (7, 1), (8, 1), (9, 1)] Tryz.underlying48 Tryz.zeroValue48 (fun _ => rfl) rfl rfl)) ?_
          refine fj_nil ?_
          refine xj_nil ?_
          try simp only [List.cons_append, List.nil_append, List.append_nil]
          refine rj_call (wn0 rfl) rfl Tryz.call11 rfl (receiveOK_t b v6 (caC nn vs) D6 (caM who bo) (.slice none 0 0) (17000000 + 6000 * i) hyin rfl (by unfold BB; omega) (caM_in who bo) (by show (0 : Int) < 18446744073709551616; decide) FrX.nil hv6 hD6 (by omega)) (by (repeat (first|exact zN _|(apply zS;focus (repeat (first|exact zH _|apply zT)))))) (fun _ _ _ _ h => h.elim) ?_
          rintro r R7 L' hR7 ⟨hvl7, v7, D7, hv7, hD7, rfl⟩
          have hrv := RW1.recv hn29 hy6 (who := who) (ok := bo)
          obtain ⟨y7, hy7e⟩ : ∃ y7, y7 = ((caC nn vs).receiveP (caM who bo)).q := ⟨_, rfl⟩
          replace hD7 : LD (17000000 + 6000 * (i + 1)) y7.g D7 := by rw [hy7e]; exact hD7
          rw [← hy7e] at hv7 hrv ⊢
          try simp only [List.cons_append, List.nil_append]
          refine rj_nil ?_
          refine hK36 _ _ _ ?_
          refine cj_env (eL 0 rfl (eL 2 rfl (eL 7 rfl (eL 9 rfl (eL 10 rfl (eL 12 rfl (eL 57 rfl (eL 58 rfl (eL 59 rfl eN))))))))) ?_
          refine cj_seq (fun K37 hK37 => ?_)
          refine cj_seq (fun K38 hK38 => ?_)
          refine cj_region ?_
          refine rv0 rfl rfl rfl (y_move rfl) ?_
          refine rv0 rfl rfl rfl (y_gtr rfl rfl) ?_
          refine rv0 rfl rfl rfl (y_move rfl) ?_
          refine rj_part 95 rfl (fun hg95 => ?_) (fun hg95 => ?_)
          ·have g1 : 0 < who := by simpa using hg95
           refine rj_val (wn1 rfl rfl rfl rfl) rfl rfl (y_move rfl) ?_
           refine rj_val (wn1 rfl rfl rfl rfl) rfl rfl (y_move rfl) ?_
           refine rj_val (wn1 rfl rfl rfl rfl) rfl rfl ((y_conv_in Tryz.underlying5 Tryz.underlying3 rfl (by (simp only [IntKind.min, IntKind.max, IntKind.signed, IntKind.bits, Bool.false_eq_true, ite_false, ite_true]; omega)))) ?_
           refine rj_val (wn1 rfl rfl rfl rfl) rfl rfl (y_lss rfl rfl) ?_
           refine rv0 rfl rfl rfl (y_pick_t rfl rfl) ?_
           refine rv0 rfl rfl rfl (y_move rfl) ?_
           refine rj_part 101 rfl (fun hg101 => ?_) (fun hg101 => ?_)
           ·have g2 : who < (nn : Int) := by simpa using hg101
            refine rj_val (wn1 rfl rfl rfl rfl) rfl rfl (y_move rfl) ?_
            refine rj_val (wn1 rfl rfl rfl rfl) rfl rfl (y_move rfl) ?_
            first | refine rj_val (wn1 rfl rfl rfl rfl) rfl rfl (y_indexAddr Tryz.underlying23 Tryz.sizeOf4 rfl rfl (by (first | omega | (dsimp only; omega) | (simp; done) | (simp; omega)))) ?_ | refine rj_val (wn1 rfl rfl rfl rfl) rfl rfl (y_index_slc Tryz.underlying23 Tryz.sizeOf4 rfl rfl (by (repeat (first|exact zH _|apply zT));done) (by (first | omega | (dsimp only; omega) | (simp; done) | (simp; omega)))) ?_
            refine rj_val (wn1 rfl rfl rfl rfl) rfl rfl ((y_load_ro ⟨Tryz.isAgg4, Tryz.sizeOf4⟩ rfl (by rw [show ((i : Nat) : Int).toNat = i by simp]; exact cell_mono hR7 hcelk))) ?_
            refine rv0 rfl rfl rfl (y_pick_t rfl rfl) ?_
            refine rj_nil ?_
            refine hK38 _ _ _ ?_
            refine cj_env (eL 0 rfl (eL 2 rfl (eL 7 rfl (eL 9 rfl (eL 12 rfl (eL 57 rfl (eL 58 rfl (eL 59 rfl (eL 106 rfl eN))))))))) ?_
            refine cj_cond rfl (fun hc106 => ?_) (fun hc106 => ?_)
            ·have g3 : 0 < who ∧ who < (nn : Int) ∧ bo = true := ⟨g1, g2, hc106⟩
             obtain ⟨vs', hvs'⟩ : ∃ vs', vs' = setAdd vs who := ⟨_, rfl⟩
             have hy7 : RW1 nn vs' y7 := by rw [if_pos g3] at hrv; rw [hvs']; exact hrv
             refine cj_region ?_
             refine rv0 rfl rfl rfl (y_move rfl) ?_
             refine rv0 rfl rfl rfl (y_move rfl) ?_
             refine rj_mapUpdate Tryz.underlying42 Tryz.underlying3 (wn0 rfl) rfl rfl rfl (by (repeat (first|exact zH _|apply zT));done) ?_
             refine rj_nil ?_
             refine hK37 _ _ _ ?_
             refine cj_env (eL 0 rfl (eL 2 rfl (eL 7 rfl (eL 9 rfl (eL 57 rfl (eL 58 rfl (eL 59 rfl eN))))))) ?_
             refine cj_seq (fun K40 hK40 => ?_)
             refine cj_region ?_
             refine rj_turn (A := mapF bm .i64 _ _) (B := mapF bm .i64 (votesF vs') vs'.length) (by (repeat (first|exact zH _|apply zT));done) (fun h hh => by (first|rw [votesF_add, setAdd_len] at hh|skip); rw [hvs']; exact hh) ?_
             have hvl := nodup_lt nn _ hy7.nd.1 hy7.nd.2
             refine rv0 rfl rfl rfl (y_move rfl) ?_
             refine rv0 rfl rfl rfl (y_nilCheck rfl) ?_
             refine rv0 rfl rfl rfl (y_fieldAddr (k := 1) Tryz.underlying39 rfl (n := 1) (by decide) Tryz.sizeOf30 rfl) ?_
             first | refine rv0 rfl rfl rfl (y_load ⟨Tryz.isAgg30, Tryz.sizeOf30⟩ rfl (by (repeat (first|exact zH _|apply zT));done) rfl) ?_ | refine rv0 rfl rfl rfl (y_load_slc ⟨Tryz.isAgg30, Tryz.sizeOf30⟩ rfl (by (repeat (first|exact zH _|apply zT));done) rfl) ?_
             refine rv0 rfl rfl rfl (y_call Tryz.call10 rfl (ndRole_q b v7 y7) (by (repeat (first|exact zN _|(apply zS;focus (repeat (first|exact zH _|apply zT))))))) ?_
             refine rv0 rfl rfl rfl (y_eql rfl rfl) ?_
             refine rv0 rfl rfl rfl (y_move rfl) ?_
             refine rv0 rfl rfl rfl (y_len_map Tryz.underlying42 rfl (by (repeat (first|exact zH _|apply zT));done)) ?_
             refine rv0 rfl rfl rfl ((y_mul64 rfl rfl (by omega))) ?_
             refine rv0 rfl rfl rfl (y_move rfl) ?_
             refine rv0 rfl rfl rfl ((y_conv_in Tryz.underlying5 Tryz.underlying3 rfl (by (simp only [IntKind.min, IntKind.max, IntKind.signed, IntKind.bits, Bool.false_eq_true, ite_false, ite_true]; omega)))) ?_
             refine rv0 rfl rfl rfl (y_gtr rfl rfl) ?_
             refine rv0 rfl rfl rfl ((Yld.to (u := .bool false) (y_bneq Tryz.underlying4 rfl rfl) (by rw [hy7.role]; simp))) ?_
             refine rj_nil ?_
             refine hK40 _ _ _ ?_
             refine cj_env (eL 0 rfl (eL 2 rfl (eL 7 rfl (eL 9 rfl (eL 57 rfl (eL 58 rfl (eL 59 rfl (eL 121 rfl eN)))))))) ?_
             refine cj_cond_f rfl ?_
             refine cj_skip ?_
             refine hK29 _ _ _ ?_
             refine cj_region ?_
             first | refine rv0 rfl rfl rfl (y_add64 rfl rfl (by (first | omega | (dsimp only; omega) | (simp; done) | (simp; omega)))) ?_ | refine rv0 rfl rfl rfl (y_add rfl rfl) ?_
             refine rv0 rfl rfl rfl (y_move rfl) ?_
             refine rj_nil ?_
             refine ej_on (q' := roundK _ _ _ _ _ _ _) rfl ?_
             refine ej_round ((i + 1, vs', v7, D7, R7, y7)) (⟨by dsimp only; omega, hv7, hD7, Hp.le_trans hR6 hR7, hy7⟩) (by dsimp only; omega) (eC rfl (eC rfl (eC rfl (eC rfl (eC rfl (eC rfl (eC rfl eN))))))) rfl (by (repeat (first|exact zR _|(apply zP;focus (repeat (first|exact zH _|apply zT)))|apply zD|exact zA _ _)))
            ·have g0 : ¬ (0 < who ∧ who < (nn : Int) ∧ bo = true) := by (simp [hc106])
             obtain ⟨vs', hvs'⟩ : ∃ vs', vs' = vs := ⟨_, rfl⟩
             have hy7 : RW1 nn vs' y7 := by rw [if_neg g0] at hrv; rw [hvs']; exact hrv
             refine cj_skip ?_
             refine hK37 _ _ _ ?_
             refine cj_seq (fun K41 hK41 => ?_)
             refine cj_region ?_
             refine rj_turn (A := mapF bm .i64 _ _) (B := mapF bm .i64 (votesF vs') vs'.length) (by (repeat (first|exact zH _|apply zT));done) (fun h hh => by (first|rw [votesF_add, setAdd_len] at hh|skip); rw [hvs']; exact hh) ?_
             have hvl := nodup_lt nn _ hy7.nd.1 hy7.nd.2
             refine rv0 rfl rfl rfl (y_move rfl) ?_
             refine rv0 rfl rfl rfl (y_nilCheck rfl) ?_
             refine rv0 rfl rfl rfl (y_fieldAddr (k := 1) Tryz.underlying39 rfl (n := 1) (by decide) Tryz.sizeOf30 rfl) ?_
             first | refine rv0 rfl rfl rfl (y_load ⟨Tryz.isAgg30, Tryz.sizeOf30⟩ rfl (by (repeat (first|exact zH _|apply zT));done) rfl) ?_ | refine rv0 rfl rfl rfl (y_load_slc ⟨Tryz.isAgg30, Tryz.sizeOf30⟩ rfl (by (repeat (first|exact zH _|apply zT));done) rfl) ?_
             refine rv0 rfl rfl rfl (y_call Tryz.call10 rfl (ndRole_q b v7 y7) (by (repeat (first|exact zN _|(apply zS;focus (repeat (first|exact zH _|apply zT))))))) ?_
             refine rv0 rfl rfl rfl (y_eql rfl rfl) ?_
             refine rv0 rfl rfl rfl (y_move rfl) ?_
             refine rv0 rfl rfl rfl (y_len_map Tryz.underlying42 rfl (by (repeat (first|exact zH _|apply zT));done)) ?_
             refine rv0 rfl rfl rfl ((y_mul64 rfl rfl (by omega))) ?_
             refine rv0 rfl rfl rfl (y_move rfl) ?_
             refine rv0 rfl rfl rfl ((y_conv_in Tryz.underlying5 Tryz.underlying3 rfl (by (simp only [IntKind.min, IntKind.max, IntKind.signed, IntKind.bits, Bool.false_eq_true, ite_false, ite_true]; omega)))) ?_
             refine rv0 rfl rfl rfl (y_gtr rfl rfl) ?_
             refine rv0 rfl rfl rfl ((Yld.to (u := .bool false) (y_bneq Tryz.underlying4 rfl rfl) (by rw [hy7.role]; simp))) ?_
             refine rj_nil ?_
             refine hK41 _ _ _ ?_
             refine cj_env (eL 0 rfl (eL 2 rfl (eL 7 rfl (eL 9 rfl (eL 57 rfl (eL 58 rfl (eL 59 rfl (eL 121 rfl eN)))))))) ?_
             refine cj_cond_f rfl ?_
             refine cj_skip ?_
             refine hK29 _ _ _ ?_
             refine cj_region ?_
             first | refine rv0 rfl rfl rfl (y_add64 rfl rfl (by (first | omega | (dsimp only; omega) | (simp; done) | (simp; omega)))) ?_ | refine rv0 rfl rfl rfl (y_add rfl rfl) ?_
             refine rv0 rfl rfl rfl (y_move rfl) ?_
             refine rj_nil ?_
             refine ej_on (q' := roundK _ _ _ _ _ _ _) rfl ?_
             refine ej_round ((i + 1, vs', v7, D7, R7, y7)) (⟨by dsimp only; omega, hv7, hD7, Hp.le_trans hR6 hR7, hy7⟩) (by dsimp only; omega) (eC rfl (eC rfl (eC rfl (eC rfl (eC rfl (eC rfl (eC rfl eN))))))) rfl (by (repeat (first|exact zR _|(apply zP;focus (repeat (first|exact zH _|apply zT)))|apply zD|exact zA _ _)))
           ·have g0 : ¬ (0 < who ∧ who < (nn : Int) ∧ bo = true) := by (try simp at hg101); omega
            obtain ⟨vs', hvs'⟩ : ∃ vs', vs' = vs := ⟨_, rfl⟩
            have hy7 : RW1 nn vs' y7 := by rw [if_neg g0] at hrv; rw [hvs']; exact hrv
            refine rj_skip (wn2 rfl rfl rfl rfl rfl) rfl rfl ?_
            refine rj_skip (wn2 rfl rfl rfl rfl rfl) rfl rfl ?_
            refine rj_skip (wn2 rfl rfl rfl rfl rfl) rfl rfl ?_
            refine rj_skip (wn2 rfl rfl rfl rfl rfl) rfl rfl ?_
            refine rv0 rfl rfl rfl (y_pick_f rfl rfl) ?_
            refine rj_nil ?_
            refine hK38 _ _ _ ?_
            refine cj_env (eL 0 rfl (eL 2 rfl (eL 7 rfl (eL 9 rfl (eL 12 rfl (eL 57 rfl (eL 58 rfl (eL 59 rfl (eL 106 rfl eN))))))))) ?_
            refine cj_cond_f rfl ?_
            refine cj_skip ?_
            refine hK37 _ _ _ ?_
            refine cj_seq (fun K42 hK42 => ?_)
            refine cj_region ?_
            refine rj_turn (A := mapF bm .i64 _ _) (B := mapF bm .i64 (votesF vs') vs'.length) (by (repeat (first|exact zH _|apply zT));done) (fun h hh => by (first|rw [votesF_add, setAdd_len] at hh|skip); rw [hvs']; exact hh) ?_
            have hvl := nodup_lt nn _ hy7.nd.1 hy7.nd.2
            refine rv0 rfl rfl rfl (y_move rfl) ?_
            refine rv0 rfl rfl rfl (y_nilCheck rfl) ?_
            refine rv0 rfl rfl rfl (y_fieldAddr (k := 1) Tryz.underlying39 rfl (n := 1) (by decide) Tryz.sizeOf30 rfl) ?_
            first | refine rv0 rfl rfl rfl (y_load ⟨Tryz.isAgg30, Tryz.sizeOf30⟩ rfl (by (repeat (first|exact zH _|apply zT));done) rfl) ?_ | refine rv0 rfl rfl rfl (y_load_slc ⟨Tryz.isAgg30, Tryz.sizeOf30⟩ rfl (by (repeat (first|exact zH _|apply zT));done) rfl) ?_
            refine rv0 rfl rfl rfl (y_call Tryz.call10 rfl (ndRole_q b v7 y7) (by (repeat (first|exact zN _|(apply zS;focus (repeat (first|exact zH _|apply zT))))))) ?_
            refine rv0 rfl rfl rfl (y_eql rfl rfl) ?_
            refine rv0 rfl rfl rfl (y_move rfl) ?_
            refine rv0 rfl rfl rfl (y_len_map Tryz.underlying42 rfl (by (repeat (first|exact zH _|apply zT));done)) ?_
            refine rv0 rfl rfl rfl ((y_mul64 rfl rfl (by omega))) ?_
            refine rv0 rfl rfl rfl (y_move rfl) ?_
            refine rv0 rfl rfl rfl ((y_conv_in Tryz.underlying5 Tryz.underlying3 rfl (by (simp only [IntKind.min, IntKind.max, IntKind.signed, IntKind.bits, Bool.false_eq_true, ite_false, ite_true]; omega)))) ?_
            refine rv0 rfl rfl rfl (y_gtr rfl rfl) ?_
            refine rv0 rfl rfl rfl ((Yld.to (u := .bool false) (y_bneq Tryz.underlying4 rfl rfl) (by rw [hy7.role]; simp))) ?_
            refine rj_nil ?_
            refine hK42 _ _ _ ?_
            refine cj_env (eL 0 rfl (eL 2 rfl (eL 7 rfl (eL 9 rfl (eL 57 rfl (eL 58 rfl (eL 59 rfl (eL 121 rfl eN)))))))) ?_
            refine cj_cond_f rfl ?_
            refine cj_skip ?_
            refine hK29 _ _ _ ?_
            refine cj_region ?_
            first | refine rv0 rfl rfl rfl (y_add64 rfl rfl (by (first | omega | (dsimp only; omega) | (simp; done) | (simp; omega)))) ?_ | refine rv0 rfl rfl rfl (y_add rfl rfl) ?_
            refine rv0 rfl rfl rfl (y_move rfl) ?_
            refine rj_nil ?_
            refine ej_on (q' := roundK _ _ _ _ _ _ _) rfl ?_
            refine ej_round ((i + 1, vs', v7, D7, R7, y7)) (⟨by dsimp only; omega, hv7, hD7, Hp.le_trans hR6 hR7, hy7⟩) (by dsimp only; omega) (eC rfl (eC rfl (eC rfl (eC rfl (eC rfl (eC rfl (eC rfl eN))))))) rfl (by (repeat (first|exact zR _|(apply zP;focus (repeat (first|exact zH _|apply zT)))|apply zD|exact zA _ _)))
          ·have g0 : ¬ (0 < who ∧ who < (nn : Int) ∧ bo = true) := by (try simp at hg95); omega
           obtain ⟨vs', hvs'⟩ : ∃ vs', vs' = vs := ⟨_, rfl⟩
           have hy7 : RW1 nn vs' y7 := by rw [if_neg g0] at hrv; rw [hvs']; exact hrv
           refine rj_skip (wn2 rfl rfl rfl rfl rfl) rfl rfl ?_
           refine rj_skip (wn2 rfl rfl rfl rfl rfl) rfl rfl ?_
           refine rj_skip (wn2 rfl rfl rfl rfl rfl) rfl rfl ?_
           refine rj_skip (wn2 rfl rfl rfl rfl rfl) rfl rfl ?_
           refine rv0 rfl rfl rfl (y_pick_f rfl rfl) ?_
           refine rv0 rfl rfl rfl (y_move rfl) ?_
           refine rj_skip (wn2 rfl rfl rfl rfl rfl) rfl rfl ?_
           refine rj_skip (wn2 rfl rfl rfl rfl rfl) rfl rfl ?_
           refine rj_skip (wn2 rfl rfl rfl rfl rfl) rfl rfl ?_
           refine rj_skip (wn2 rfl rfl rfl rfl rfl) rfl rfl ?_
           refine rv0 rfl rfl rfl (y_pick_f rfl rfl) ?_
           refine rj_nil ?_
           refine hK38 _ _ _ ?_
           refine cj_env (eL 0 rfl (eL 2 rfl (eL 7 rfl (eL 9 rfl (eL 12 rfl (eL 57 rfl (eL 58 rfl (eL 59 rfl (eL 106 rfl eN))))))))) ?_
           refine cj_cond_f rfl ?_
           refine cj_skip ?_
           refine hK37 _ _ _ ?_
           refine cj_seq (fun K43 hK43 => ?_)
           refine cj_region ?_
           refine rj_turn (A := mapF bm .i64 _ _) (B := mapF bm .i64 (votesF vs') vs'.length) (by (repeat (first|exact zH _|apply zT));done) (fun h hh => by (first|rw [votesF_add, setAdd_len] at hh|skip); rw [hvs']; exact hh) ?_
           have hvl := nodup_lt nn _ hy7.nd.1 hy7.nd.2
           refine rv0 rfl rfl rfl (y_move rfl) ?_
           refine rv0 rfl rfl rfl (y_nilCheck rfl) ?_
           refine rv0 rfl rfl rfl (y_fieldAddr (k := 1) Tryz.underlying39 rfl (n := 1) (by decide) Tryz.sizeOf30 rfl) ?_
           first | refine rv0 rfl rfl rfl (y_load ⟨Tryz.isAgg30, Tryz.sizeOf30⟩ rfl (by (repeat (first|exact zH _|apply zT));done) rfl) ?_ | refine rv0 rfl rfl rfl (y_load_slc ⟨Tryz.isAgg30, Tryz.sizeOf30⟩ rfl (by (repeat (first|exact zH _|apply zT));done) rfl) ?_
           refine rv0 rfl rfl rfl (y_call Tryz.call10 rfl (ndRole_q b v7 y7) (by (repeat (first|exact zN _|(apply zS;focus (repeat (first|exact zH _|apply zT))))))) ?_
           refine rv0 rfl rfl rfl (y_eql rfl rfl) ?_
           refine rv0 rfl rfl rfl (y_move rfl) ?_
           refine rv0 rfl rfl rfl (y_len_map Tryz.underlying42 rfl (by (repeat (first|exact zH _|apply zT));done)) ?_
           refine rv0 rfl rfl rfl ((y_mul64 rfl rfl (by omega))) ?_
           refine rv0 rfl rfl rfl (y_move rfl) ?_
           refine rv0 rfl rfl rfl ((y_conv_in Tryz.underlying5 Tryz.underlying3 rfl (by (simp only [IntKind.min, IntKind.max, IntKind.signed, IntKind.bits, Bool.false_eq_true, ite_false, ite_true]; omega)))) ?_
           refine rv0 rfl rfl rfl (y_gtr rfl rfl) ?_
           refine rv0 rfl rfl rfl ((Yld.to (u := .bool false) (y_bneq Tryz.underlying4 rfl rfl) (by rw [hy7.role]; simp))) ?_
           refine rj_nil ?_
           refine hK43 _ _ _ ?_
           refine cj_env (eL 0 rfl (eL 2 rfl (eL 7 rfl (eL 9 rfl (eL 57 rfl (eL 58 rfl (eL 59 rfl (eL 121 rfl eN)))))))) ?_
           refine cj_cond_f rfl ?_
           refine cj_skip ?_
           refine hK29 _ _ _ ?_
           refine cj_region ?_
           first | refine rv0 rfl rfl rfl (y_add64 rfl rfl (by (first | omega | (dsimp only; omega) | (simp; done) | (simp; omega)))) ?_ | refine rv0 rfl rfl rfl (y_add rfl rfl) ?_
           refine rv0 rfl rfl rfl (y_move rfl) ?_
           refine rj_nil ?_
           refine ej_on (q' := roundK _ _ _ _ _ _ _) rfl ?_
           refine ej_round ((i + 1, vs', v7, D7, R7, y7)) (⟨by dsimp only; omega, hv7, hD7, Hp.le_trans hR6 hR7, hy7⟩) (by dsimp only; omega) (eC rfl (eC rfl (eC rfl (eC rfl (eC rfl (eC rfl (eC rfl eN))))))) rfl (by (repeat (first|exact zR _|(apply zP;focus (repeat (first|exact zH _|apply zT)))|apply zD|exact zA _ _)))
        ·try simp only [dT, dF, nT, nF, tF, fT] at hc60
         refine cj_exit ?_
         refine hK24 _ _ _ ?_
         refine cj_env (eL 7 rfl eN) ?_
         refine cj_seq (fun K44 hK44 => ?_)
         refine cj_region ?_
         have hR06 := Hp.le_trans hR1 (Hp.le_trans hR2 (Hp.le_trans hR3 (Hp.le_trans hR5 hR6)))
         have hyg : y.g.ok := (hy6.inn.nin0 (by unfold BB; omega) hy6.out).g (by omega)
         refine rv0 rfl rfl rfl (y_move rfl) ?_
         refine rv0 rfl rfl rfl (y_nilCheck rfl) ?_
         refine rv0 rfl rfl rfl (y_fieldAddr (k := 1) Tryz.underlying39 rfl (n := 1) (by decide) Tryz.sizeOf30 rfl) ?_
         first | refine rv0 rfl rfl rfl (y_load ⟨Tryz.isAgg30, Tryz.sizeOf30⟩ rfl (by (repeat (first|exact zH _|apply zT));done) rfl) ?_ | refine rv0 rfl rfl rfl (y_load_slc ⟨Tryz.isAgg30, Tryz.sizeOf30⟩ rfl (by (repeat (first|exact zH _|apply zT));done) rfl) ?_
         refine rv0 rfl rfl rfl (y_call Tryz.call12 rfl (ndLog_q b v6 y) (by (repeat (first|exact zN _|(apply zS;focus (repeat (first|exact zH _|apply zT))))))) ?_
         refine rv0 rfl rfl rfl (y_call Tryz.call13 rfl ((lgTerm_q b.l (some ⟨b.d, 0, none⟩) v6.va y.g).eq2 (v' := .int .u64 1) (by rw [hy6.term])) (by (repeat (first|exact zN _|(apply zS;focus (repeat (first|exact zH _|apply zT))))))) ?_
         refine rv0 rfl rfl rfl (y_eql rfl rfl) ?_
         refine rv0 rfl rfl rfl (y_move rfl) ?_
         refine rj_val (wn1 rfl rfl rfl rfl) rfl rfl (y_move rfl) ?_
         refine rj_val (wn1 rfl rfl rfl rfl) rfl rfl (y_nilCheck rfl) ?_
         refine rj_val (wn1 rfl rfl rfl rfl) rfl rfl (y_fieldAddr (k := 1) Tryz.underlying39 rfl (n := 1) (by decide) Tryz.sizeOf30 rfl) ?_
         first | refine rj_val (wn1 rfl rfl rfl rfl) rfl rfl (y_load ⟨Tryz.isAgg30, Tryz.sizeOf30⟩ rfl (by (repeat (first|exact zH _|apply zT));done) rfl) ?_ | refine rj_val (wn1 rfl rfl rfl rfl) rfl rfl (y_load_slc ⟨Tryz.isAgg30, Tryz.sizeOf30⟩ rfl (by (repeat (first|exact zH _|apply zT));done) rfl) ?_
         refine rj_val (wn1 rfl rfl rfl rfl) rfl rfl (y_call Tryz.call12 rfl (ndLog_q b v6 y) (by (repeat (first|exact zN _|(apply zS;focus (repeat (first|exact zH _|apply zT))))))) ?_
         refine rj_val (wn1 rfl rfl rfl rfl) rfl rfl (y_call Tryz.call14 rfl ((lgVote_q b.l (some ⟨b.d, 0, none⟩) v6.va y.g).eq2 (v' := .int .i64 0) (by rw [hy6.vote])) (by (repeat (first|exact zN _|(apply zS;focus (repeat (first|exact zH _|apply zT))))))) ?_
         refine rj_val (wn1 rfl rfl rfl rfl) rfl rfl (y_eql rfl rfl) ?_
         refine rv0 rfl rfl rfl (y_pick_t rfl rfl) ?_
         refine rv0 rfl rfl rfl (y_assign rfl) ?_
         refine rj_nil ?_
         refine hK44 _ _ _ ?_
         refine cj_env (eL 6 rfl eN) ?_
         refine cj_ret ?_
         refine hret _ _ _ ?_
         apply ej_ret Tryz.results3 (.cons (rv_tmp rfl) .nil) _ [] (by first | exact hR1 | assumption) rfl
         case hp => exact rfl
         case hS => (repeat (first|exact zR _|(apply zP;focus (repeat (first|exact zH _|apply zT)))|apply zD|exact zA _ _))
       ·have hj9 : j < 9 := by (by_cases h : j = 9; (exfalso; subst h; rw [hy, ca_stand (by omega)] at hc53; simp [caC] at hc53); omega)
        rw [ca_step hj9] at hy
        subst hy
        replace hD5 : LD (6000 * (j + 1)) (caS nn (j + 1 : Nat)).g D5 := hD5
        refine cj_skip ?_
        refine hK19 _ _ _ ?_
        refine cj_region ?_
        first | refine rv0 rfl rfl rfl (y_add64 rfl rfl (by (first | omega | (dsimp only; omega) | (simp; done) | (simp; omega)))) ?_ | refine rv0 rfl rfl rfl (y_add rfl rfl) ?_
        refine rv0 rfl rfl rfl (y_move rfl) ?_
        refine rj_nil ?_
        refine ej_on (q' := roundK _ _ _ _ _ _ _) rfl ?_
        refine ej_round ((j + 1, v5, D5, R5)) (⟨by dsimp only; omega, hv5, hD5, Hp.le_trans hR3 hR5⟩) (by dsimp only; omega) (eC rfl (eC rfl (eC rfl (eC rfl (eC rfl eN))))) rfl (by (repeat (first|exact zR _|(apply zP;focus (repeat (first|exact zH _|apply zT)))|apply zD|exact zA _ _)))
      · (exfalso; (try simp at hc42); omega)
end V
end Go.Proofs.YtjdbigplednihaaGreat
namespace Go.Proofs.YtjdbigplednihaaGreat
open Go.ChangeShapes Go.WideShapes Go.ChangeAt Go.RowKit
open V
set_option maxHeartbeats 1000000 in
set_option maxRecDepth 100000 in
theorem RaftWins_holds_lifted (os : Os) (started : os.Started) (H : Type) (enc : TypeId × Value → H) :
    ReturnsInHanded {} Tryz.checked os 3 .any (Rows.raftWinsSpec.pre6 enc Tryz.prog Tryz.f3 Rows.raftWinsRow.domain false) (Rows.raftWinsSpec.post enc Tryz.prog Tryz.f3 false true false false) := by
  refine returnsInHanded_of_change (C := Tryz.checked) own started (by kernel_rfl) Tryz.func3
    (ChangeSpec.witness6 (enc := enc) (C := Tryz.checked) false ⟨#[], #[.int .u8 0, .slice none 0 0, .slice none 0 0], []⟩ 8 (by kernel_rfl) (by kernel_rfl) (by kernel_rfl) (by kernel_rfl)) ?_
  intro W base args ds gs before hval0 hW hcnd _
  have hval : ∀ (j : Nat) t v, Tryz.f3.params[j]? = some t → args[j]? = some v → Value.okWide Tryz.prog W .any base t v := hval0
  have hW' := hW
  obtain ⟨p, q, hA0, hV, rfl, hfz, hnd⟩ := hW
  have hA : DataW.TrodAll enc Tryz.prog W 0 (fun _ => true) true Tryz.f3.params.toList args.toList ds p := hA0
  rw [Tryz.params3] at hA hval
  obtain ⟨v0, vs0, d0, ds0, p0, q0, hargs, rfl, rfl, t0, r0⟩ := trodAll_cons hA
  obtain ⟨v1, vs1, d1, ds1, p1, q1, rfl, rfl, rfl, t1, r1⟩ := trodAll_cons r0
  obtain ⟨v2, vs2, d2, ds2, p2, q2, rfl, rfl, rfl, t2, r2⟩ := trodAll_cons r1
  obtain ⟨rfl, rfl, rfl⟩ := trodAll_nil r2
  obtain rfl : args = #[v0, v1, v2] := by cases args; simp_all
  obtain ⟨rfl, rfl⟩ := trodVars_none hV
  have lt0 : ∀ x ∈ p0, x.block < W.heap.size := by obtain ⟨m, hm⟩ := t0; exact DataW.trod_lt m _ _ _ hm
  obtain ⟨y0, h0⟩ : ∃ y, (intR .u8) (oldH W) v0.cells.toList y := by obtain ⟨m, hm⟩ := t0; exact (reads_int Tryz.underlying5) W m _ _ hm
  obtain ⟨n0, rfl⟩ := okWide_int Tryz.underlying5 (hval 0 5 v0 rfl rfl)
  obtain ⟨e0, h0⟩ := h0
  obtain rfl : y0 = n0 := by have := e0; simp [Value.cells] at this; exact this.symm
  have lt1 : ∀ x ∈ p1, x.block < W.heap.size := by obtain ⟨m, hm⟩ := t1; exact DataW.trod_lt m _ _ _ hm
  obtain ⟨y1, h1⟩ : ∃ y, (slcR 1 (intR .u8)) (oldH W) v1.cells.toList y := by obtain ⟨m, hm⟩ := t1; exact (reads_slc Tryz.underlying22 (by kernel_rfl) (by decide) (reads_int Tryz.underlying5)) W m _ _ hm
  obtain ⟨a1, len1, cap1, rfl⟩ := okWide_slice Tryz.underlying22 (hval 1 22 v1 rfl rfl)
  obtain ⟨v1, hv1⟩ : ∃ v, v = Value.slice a1 len1 cap1 := ⟨_, rfl⟩
  replace h1 : (slcR 1 (intR .u8)) (oldH W) [v1] y1 := by rw [hv1]; exact h1
  have lt2 : ∀ x ∈ p2, x.block < W.heap.size := by obtain ⟨m, hm⟩ := t2; exact DataW.trod_lt m _ _ _ hm
  obtain ⟨y2, h2⟩ : ∃ y, (slcR 1 boolR) (oldH W) v2.cells.toList y := by obtain ⟨m, hm⟩ := t2; exact (reads_slc Tryz.underlying23 (by kernel_rfl) (by decide) (reads_bool Tryz.underlying4)) W m _ _ hm
  obtain ⟨a2, len2, cap2, rfl⟩ := okWide_slice Tryz.underlying23 (hval 2 23 v2 rfl rfl)
  obtain ⟨v2, hv2⟩ : ∃ v, v = Value.slice a2 len2 cap2 := ⟨_, rfl⟩
  replace h2 : (slcR 1 boolR) (oldH W) [v2] y2 := by rw [hv2]; exact h2
  clear hA0 hval0
  subst hv1; subst hv2
  refine (law_calls (raftWins_t y0 h0 _ y1 h1 _ y2 h2)).mono fun e W' ⟨he, bel⟩ => ?_
  subst he
  exact ⟨_, rfl, _, _, _, [], _, [], hW', trodAll_mk1 (shut_bool Tryz.underlying4 _), (trodAll_cons_mk (Below.trod laidOut (by kernel_rfl) (of_decide_eq_true (by kernel_rfl)) t0 bel lt0) (trodAll_cons_mk (Below.trod laidOut (by kernel_rfl) (of_decide_eq_true (by kernel_rfl)) t1 bel lt1) (trodAll_cons_mk (Below.trod laidOut (by kernel_rfl) (of_decide_eq_true (by kernel_rfl)) t2 bel lt2) trodAll_mk0))), rfl, bel.frame _, fun h => by cases h⟩
theorem RaftWins_holds : Rows.RaftWinsSaid :=
  OpenClaim.holds_of_wide 3 Tryz.f3 rfl rfl rfl rfl rfl rfl rfl ⟨rfl, rfl, rfl, rfl, rfl⟩ rfl rfl rfl rfl rfl (by kernel_rfl) Tryz.func3 (by kernel_rfl)
    (of_decide_eq_true (by kernel_rfl)) (by unfold Func.isWrapper; first | (rw [if_pos (by decide +kernel)]; kernel_rfl) | (rw [if_neg (by decide +kernel)]; exact ⟨rfl, rfl⟩))
    (fun os started H enc _ => RaftWins_holds_lifted os started H enc)
#print axioms RaftWins_holds
end Go.Proofs.YtjdbigplednihaaGreat
