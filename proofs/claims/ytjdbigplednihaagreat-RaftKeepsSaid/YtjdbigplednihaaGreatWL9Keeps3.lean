/- Parts that the texts behind stand on: T9g, T9h, T9i, T9j, T9k, T9l, T9m, T9n, T9q, T9r, T9u, T9t, T9v. -/
import Derived.Test.YtjdbigplednihaaGreatWL9Keeps2
set_option linter.unusedSimpArgs false
set_option linter.unusedVariables false
set_option maxRecDepth 100000
namespace Go.Proofs.YtjdbigplednihaaGreat
open Go.RowKit
namespace V
set_option maxHeartbeats 4000000
theorem NIn.pat {k : Nat} {x : ND} (h : NIn k x) {p : Int} (hp : 0 ≤ p ∧ p ≤ 1000000000000 + k) : NIn k { x with patience := p } :=
  ⟨h.idn, h.term, h.vote, h.base, h.baseT, h.state, h.alln, h.all, h.commit, hp, h.peers, h.peer, h.votes, h.out⟩
theorem NOk.sends {R R' : Hp} {v : NV} {x : ND} (h : NOk R v x) (hR : R.le R') {l : List Msg} {vo : Value} {css : List (List Value)} (ho : Els msgE R' (x.sends l).out css) (hvo : vo.oneCell' = true) : NOk R' (v.sent vo css) (x.sends l) := h.sent (y := x.sends l) hR ⟨rfl, rfl⟩ ho hvo
theorem tick1_t {R : Hp} (b : NB) (v : NV) (x : ND) (D : DK) (k m bX : Nat) (hk : k ≤ 40) (hx : NIn k x) (hv : NOk R v x) (hD : D.ok m) (hm : m ≤ 800000000) :
    Tri Tryz.prog 33 [.pointer (some ⟨bX, 0, none⟩)] R (blk bX [.pointer (some ⟨b.x, 0, none⟩)] 30 :: ndL b v x D) (NRet b (tickN (x, D))) (NPan b (tickN (x, D))) := by
  have hpt := hx.patience
  have hx1 : NIn (k + 1) { x with patience := x.patience + 1 } := (hx.le (show k ≤ k + 1 by omega)).pat (by omega)
  have hx0 : NIn k { x with patience := 0 } := hx.pat (by omega)
  have hv1 : NOk R v { x with patience := x.patience + 1 } := hv.to (Hp.le_refl _) ⟨rfl, rfl, rfl⟩
  have hv0 : NOk R v { x with patience := 0 } := hv.to (Hp.le_refl _) ⟨rfl, rfl, rfl⟩
  refine tri_of Tryz.func33 rfl Tryz.ntmps33 rfl (fun σ F Q hret hend hpan => ?_)
  try simp only [cA, nA]
  refine cj_seq fun K1 hK1 => ?_
  refine cj_region ?_
  first | refine Pa (La o30) ?_ | refine Pa (Ls o30) ?_
  refine Pa (y_nilCheck rfl) ?_
  refine Pa (Ga Tryz.underlying81 Tryz.sizeOf3) ?_
  first | refine Pa (La o3) ?_ | refine Pa (Ls o3) ?_
  refine Pa ((y_add64 rfl rfl (by omega))) ?_
  refine Pa (y_nilCheck rfl) ?_
  refine Pa (Ga Tryz.underlying81 Tryz.sizeOf3) ?_
  refine Sa o3 ?_
  refine rj_nil ?_
  refine hK1 _ _ _ ?_
  refine cj_block ?_
  refine cj_seq fun K2 hK2 => ?_
  refine cj_region ?_
  first | refine Pa (La o30) ?_ | refine Pa (Ls o30) ?_
  refine Pa (y_nilCheck rfl) ?_
  refine Pa (Ga Tryz.underlying81 Tryz.sizeOf3) ?_
  first | refine Pa (La o3) ?_ | refine Pa (Ls o3) ?_
  refine Pa (y_eql rfl rfl) ?_
  refine Pm ?_
  refine rj_part 14 rfl (fun hg14 => ?_) (fun hg14 => ?_)
  ·have f1 : x.role = 2 := by simpa using hg14
   have hp : x.peers.length = x.n := hx.peers f1
   first | refine Pb (La o30) ?_ | refine Pb (Ls o30) ?_
   refine Pb (y_nilCheck rfl) ?_
   refine Pb (Ga Tryz.underlying81 Tryz.sizeOf3) ?_
   first | refine Pb (La o3) ?_ | refine Pb (Ls o3) ?_
   refine Pb (y_geq rfl rfl) ?_
   refine Pa (y_pick_t rfl rfl) ?_
   refine Ps ?_
   refine rj_nil ?_
   refine hK2 _ _ _ ?_
   refine cj_env (eL 0 rfl (eL 8 rfl eN)) ?_
   refine cj_cond rfl (fun hc8 => ?_) (fun hc8 => ?_)
   ·first | (have f2 : x.patience + 1 ≥ 3 := by (try simp at hc8); omega); have hT : tickN (x, D) = (true, (ND.feedAll { x with patience := 0 }, D)) := by (unfold tickN; rw [if_pos f1, if_pos f2]) | skip
    refine cj_seq fun K4 hK4 => ?_
    refine cj_region ?_
    first | refine Pa (La o30) ?_ | refine Pa (Ls o30) ?_
    refine Pa (y_nilCheck rfl) ?_
    refine Pa (Ga Tryz.underlying81 Tryz.sizeOf3) ?_
    refine Sa o3 ?_
    refine rj_nil ?_
    refine hK4 _ _ _ ?_
    refine cj_region ?_
    first | refine Pa (La o30) ?_ | refine Pa (Ls o30) ?_
    first | refine Pa (La o30) ?_ | refine Pa (Ls o30) ?_
    refine Pa (y_makeFunc rfl rfl) ?_
    refine Ra Tryz.call34 (feedAll_t b v { x with patience := 0 } k (by omega) hx0 hv0 hp) ?_
    rintro r R7 L' hR7 ⟨vo, css, hels, hvo, rfl⟩
    rw [feedAll_eq] at hels hT ⊢
    try simp only [cA, nA]
    refine rj_nil ?_
    refine hend _ _ _ ?_
    apply ej_end Tryz.results33 .nil _ (ndL b (v.sent vo css) (ND.sends { x with patience := 0 } _) D) (by first | exact Hp.le_refl _ | assumption) rfl
    case hp => rw [hT]; exact ⟨rfl, _, hv0.sends hR7 hels hvo, rfl⟩
    case hS => exact sb_
   ·first | (have f2 : ¬ x.patience + 1 ≥ 3 := by (try simp at hc8); omega); have hT : tickN (x, D) = (true, ({ x with patience := x.patience + 1 }, D)) := by (unfold tickN; rw [if_pos f1, if_neg f2]) | skip
    refine cj_seq fun K5 hK5 => ?_
    refine cj_draw (by kernel_rfl) (by kernel_rfl) ?_
    first | refine Qa (La o30) ?_ | refine Qa (Ls o30) ?_
    refine Qa (y_nilCheck rfl) ?_
    refine Qa (Ga Tryz.underlying81 Tryz.sizeOf3) ?_
    first | refine Qa (La o3) ?_ | refine Qa (Ls o3) ?_
    refine Qa (y_neq rfl rfl) ?_
    refine Qa (y_move rfl) ?_
    refine qj_part 34 rfl (fun hg34 => ?_) (fun hg34 => ?_)
    ·have g1 : ¬ x.role = 2 := by simpa using hg34
     first | refine Qb (La o30) ?_ | refine Qb (Ls o30) ?_
     refine Qb (y_nilCheck rfl) ?_
     refine Qb (Ga Tryz.underlying81 Tryz.sizeOf3) ?_
     first | refine Qb (La o3) ?_ | refine Qb (Ls o3) ?_
     first | refine Qb (La o30) ?_ | refine Qb (Ls o30) ?_
     refine Qb (Ca Tryz.call36 (limit_q b v { x with patience := x.patience + 1 } (k + 1) (by omega) hx1)) ?_
     refine Qb (y_geq rfl rfl) ?_
     refine Qa (y_pick_t rfl rfl) ?_
     refine Qa (y_assign rfl) ?_
     refine qj_nil ?_
     refine hK5 _ _ _ ?_
     refine cj_env (eL 0 rfl (eL 28 rfl eN)) ?_
     refine cj_cond rfl (fun hc28 => ?_) (fun hc28 => ?_)
     ·first | (have f2 : x.patience + 1 ≥ limitI x.id x.g.term := by (try simp at hc28); omega); have hT2 : tickN (x, D) = standN ({ x with patience := x.patience + 1 }, D) := by (unfold tickN; rw [if_neg g1, if_pos f2]) | skip
      refine cj_region ?_
      first | refine Pa (La o30) ?_ | refine Pa (Ls o30) ?_
      refine rj_call (wn0 rfl) rfl Tryz.call37 rfl (stand_t b v { x with patience := x.patience + 1 } D (k + 1) m (by omega) hx1 hv1 hD hm) sp_ (fun ch Rp Lp hRp hpp => ?_) ?_
      · obtain ⟨hF, rfl, v3, hv3, rfl⟩ := hpp
        try simp only [cA, nA]
        refine hpan _ _ _ _ ?_
        refine ej_pan _ (ndL b v3 (standN ({ x with patience := x.patience + 1 }, D)).2.1 (standN ({ x with patience := x.patience + 1 }, D)).2.2) (by first | exact Hp.le_refl _ | assumption | exact Hp.le_trans ‹_› ‹_›) rfl sb_ ?_
        exact ⟨by rw [hT2]; exact hF, rfl, v3, by rw [hT2]; exact hv3, by rw [hT2]⟩
      rintro r R8 L' hR8 ⟨hF, v3, hv3, rfl⟩
      try simp only [cA, nA]
      refine rj_nil ?_
      refine hend _ _ _ ?_
      apply ej_end Tryz.results33 .nil _ (ndL b v3 (standN ({ x with patience := x.patience + 1 }, D)).2.1 (standN ({ x with patience := x.patience + 1 }, D)).2.2) (by first | exact Hp.le_refl _ | assumption) rfl
      case hp => rw [hT2]; exact ⟨hF, v3, hv3, rfl⟩
      case hS => exact sb_
     ·first | (have f2 : ¬ x.patience + 1 ≥ limitI x.id x.g.term := by (try simp at hc28); omega); have hT : tickN (x, D) = (true, ({ x with patience := x.patience + 1 }, D)) := by (unfold tickN; rw [if_neg g1, if_neg f2]) | skip
      refine cj_skip ?_
      refine hend _ _ _ ?_
      apply ej_end Tryz.results33 .nil _ (ndL b v { x with patience := x.patience + 1 } D) (by first | exact Hp.le_refl _ | assumption) rfl
      case hp => rw [hT]; exact ⟨rfl, _, hv1, rfl⟩
      case hS => exact sb_
    ·have g1 : x.role = 2 := by simpa using hg34
     first | (have hT : tickN (x, D) = (true, ({ x with patience := x.patience + 1 }, D)) := absurd g1 f1) | skip
     refine Qk ?_
     refine Qk ?_
     refine Qk ?_
     refine Qk ?_
     refine Qk ?_
     refine Qk ?_
     refine Qk ?_
     refine Qa (y_pick_f rfl rfl) ?_
     refine Qa (y_assign rfl) ?_
     refine qj_nil ?_
     refine hK5 _ _ _ ?_
     refine cj_cond_f rfl ?_
     refine cj_skip ?_
     refine hend _ _ _ ?_
     apply ej_end Tryz.results33 .nil _ (ndL b v { x with patience := x.patience + 1 } D) (by first | exact Hp.le_refl _ | assumption) rfl
     case hp => rw [hT]; exact ⟨rfl, _, hv1, rfl⟩
     case hS => exact sb_
  ·have f1 : ¬ x.role = 2 := by simpa using hg14
   refine Pk ?_
   refine Pk ?_
   refine Pk ?_
   refine Pk ?_
   refine Pk ?_
   refine Pa (y_pick_f rfl rfl) ?_
   refine Ps ?_
   refine rj_nil ?_
   refine hK2 _ _ _ ?_
   refine cj_cond_f rfl ?_
   refine cj_seq fun K7 hK7 => ?_
   refine cj_draw (by kernel_rfl) (by kernel_rfl) ?_
   first | refine Qa (La o30) ?_ | refine Qa (Ls o30) ?_
   refine Qa (y_nilCheck rfl) ?_
   refine Qa (Ga Tryz.underlying81 Tryz.sizeOf3) ?_
   first | refine Qa (La o3) ?_ | refine Qa (Ls o3) ?_
   refine Qa (y_neq rfl rfl) ?_
   refine Qa (y_move rfl) ?_
   refine qj_part 34 rfl (fun hg34 => ?_) (fun hg34 => ?_)
   ·have g1 : ¬ x.role = 2 := by simpa using hg34
    first | refine Qb (La o30) ?_ | refine Qb (Ls o30) ?_
    refine Qb (y_nilCheck rfl) ?_
    refine Qb (Ga Tryz.underlying81 Tryz.sizeOf3) ?_
    first | refine Qb (La o3) ?_ | refine Qb (Ls o3) ?_
    first | refine Qb (La o30) ?_ | refine Qb (Ls o30) ?_
    refine Qb (Ca Tryz.call36 (limit_q b v { x with patience := x.patience + 1 } (k + 1) (by omega) hx1)) ?_
    refine Qb (y_geq rfl rfl) ?_
    refine Qa (y_pick_t rfl rfl) ?_
    refine Qa (y_assign rfl) ?_
    refine qj_nil ?_
    refine hK7 _ _ _ ?_
    refine cj_env (eL 0 rfl (eL 28 rfl eN)) ?_
    refine cj_cond rfl (fun hc28 => ?_) (fun hc28 => ?_)
    ·first | (have f2 : x.patience + 1 ≥ limitI x.id x.g.term := by (try simp at hc28); omega); have hT2 : tickN (x, D) = standN ({ x with patience := x.patience + 1 }, D) := by (unfold tickN; rw [if_neg g1, if_pos f2]) | skip
     refine cj_region ?_
     first | refine Pa (La o30) ?_ | refine Pa (Ls o30) ?_
     refine rj_call (wn0 rfl) rfl Tryz.call37 rfl (stand_t b v { x with patience := x.patience + 1 } D (k + 1) m (by omega) hx1 hv1 hD hm) sp_ (fun ch Rp Lp hRp hpp => ?_) ?_
     · obtain ⟨hF, rfl, v3, hv3, rfl⟩ := hpp
       try simp only [cA, nA]
       refine hpan _ _ _ _ ?_
       refine ej_pan _ (ndL b v3 (standN ({ x with patience := x.patience + 1 }, D)).2.1 (standN ({ x with patience := x.patience + 1 }, D)).2.2) (by first | exact Hp.le_refl _ | assumption | exact Hp.le_trans ‹_› ‹_›) rfl sb_ ?_
       exact ⟨by rw [hT2]; exact hF, rfl, v3, by rw [hT2]; exact hv3, by rw [hT2]⟩
     rintro r R8 L' hR8 ⟨hF, v3, hv3, rfl⟩
     try simp only [cA, nA]
     refine rj_nil ?_
     refine hend _ _ _ ?_
     apply ej_end Tryz.results33 .nil _ (ndL b v3 (standN ({ x with patience := x.patience + 1 }, D)).2.1 (standN ({ x with patience := x.patience + 1 }, D)).2.2) (by first | exact Hp.le_refl _ | assumption) rfl
     case hp => rw [hT2]; exact ⟨hF, v3, hv3, rfl⟩
     case hS => exact sb_
    ·first | (have f2 : ¬ x.patience + 1 ≥ limitI x.id x.g.term := by (try simp at hc28); omega); have hT : tickN (x, D) = (true, ({ x with patience := x.patience + 1 }, D)) := by (unfold tickN; rw [if_neg g1, if_neg f2]) | skip
     refine cj_skip ?_
     refine hend _ _ _ ?_
     apply ej_end Tryz.results33 .nil _ (ndL b v { x with patience := x.patience + 1 } D) (by first | exact Hp.le_refl _ | assumption) rfl
     case hp => rw [hT]; exact ⟨rfl, _, hv1, rfl⟩
     case hS => exact sb_
   ·have g1 : x.role = 2 := by simpa using hg34
    first | (have hT : tickN (x, D) = (true, ({ x with patience := x.patience + 1 }, D)) := absurd g1 f1) | skip
    refine Qk ?_
    refine Qk ?_
    refine Qk ?_
    refine Qk ?_
    refine Qk ?_
    refine Qk ?_
    refine Qk ?_
    refine Qa (y_pick_f rfl rfl) ?_
    refine Qa (y_assign rfl) ?_
    refine qj_nil ?_
    refine hK7 _ _ _ ?_
    refine cj_cond_f rfl ?_
    refine cj_skip ?_
    refine hend _ _ _ ?_
    apply ej_end Tryz.results33 .nil _ (ndL b v { x with patience := x.patience + 1 } D) (by first | exact Hp.le_refl _ | assumption) rfl
    case hp => rw [hT]; exact ⟨rfl, _, hv1, rfl⟩
    case hS => exact sb_
structure MIn (k : Nat) (n : Nat) (m : Msg) : Prop where
  frm : 0 ≤ m.frm ∧ m.frm < n
  term : 0 ≤ m.term ∧ m.term ≤ 2305843009213693952 + k
  index : 0 ≤ m.index ∧ m.index ≤ 100000000000000
  logTerm : 0 ≤ m.logTerm ∧ m.logTerm ≤ 2305843009213693952 + k
  commit : 0 ≤ m.commit ∧ m.commit < 18446744073709551616
  es : m.es.length ≤ 20 ∧ ∀ e ∈ m.es, (0 ≤ e.1 ∧ e.1 ≤ 2305843009213693952 + k) ∧ e.2.length ≤ 100
  state : m.state.length ≤ 1000000
theorem MIn.le {k j n : Nat} {m : Msg} (h : MIn k n m) (hk : k ≤ j) : MIn j n m :=
  ⟨h.frm, ⟨h.term.1, by have := h.term.2; omega⟩, h.index, ⟨h.logTerm.1, by have := h.logTerm.2; omega⟩, h.commit, ⟨h.es.1, fun e he => ⟨⟨(h.es.2 e he).1.1, by have := (h.es.2 e he).1.2; omega⟩, (h.es.2 e he).2⟩⟩, h.state⟩
theorem asked_t {R : Hp} (b : NB) (v : NV) (x : ND) (D : DK) (m : Msg) (ve : Value) (k n : Nat) (hk : k ≤ 50) (hx : NIn k x) (hv : NOk R v x) (hm : MIn k x.n m) (hve : FrX entE R m.es ve) (hD : D.ok n) (hn : n ≤ 800000000) :
    Tri Tryz.prog 41 [.pointer (some ⟨b.x, 0, none⟩), .agg ⟨msgC m ve⟩] R (ndL b v x D) (NRet b (askedN (x, D) m)) (NPan b (askedN (x, D) m)) := by
  have hg := hx.g (by omega)
  have hva := hv.va
  have hlb := LG.last_b hg
  have hidn := hx.idn
  have hterm := hx.term
  have hob := hx.out
  have hfrm := hm.frm
  obtain ⟨ra, hra⟩ : ∃ r, r = x.g.setTermD D x.g.term m.frm := ⟨_, rfl⟩
  have hveo := hve.one
  refine tri_of Tryz.func41 rfl Tryz.ntmps41 rfl (fun σ F Q hret hend hpan => ?_)
  try simp only [cA, nA]
  refine cj_seq fun K1 hK1 => ?_
  refine cj_region ?_
  refine rj_box (wn0 rfl) rfl rfl rfl (fun b3 => ?_)
  refine rj_nil ?_
  refine hK1 _ _ _ ?_
  refine cj_seq fun K2 hK2 => ?_
  refine cj_region ?_
  refine Pm ?_
  refine Pa (y_nilCheck rfl) ?_
  refine Pa (Ga Tryz.underlying81 Tryz.sizeOf44) ?_
  first | refine Pa (La o44) ?_ | refine Pa (Ls o44) ?_
  refine Pa (Ca Tryz.call19 (lgLast_q b.l (some ⟨b.d, 0, none⟩) v.va x.g hg hva)) ?_
  refine Ps ?_
  refine rj_nil ?_
  refine hK2 _ _ _ ?_
  refine cj_seq fun K3 hK3 => ?_
  refine cj_region ?_
  refine Pm ?_
  refine Pm ?_
  refine Pa (Ca Tryz.call63 (ndTermAt_q b v x hg hva x.g.last (by unfold u64B; omega))) ?_
  refine Ps ?_
  refine rj_nil ?_
  refine hK3 _ _ _ ?_
  refine cj_seq fun K4 hK4 => ?_
  have hJ4 : ∀ (gd : Bool), gd = x.good m → EJ ⟨Tryz.prog, 94, σ⟩ K4 [(0, .pointer (some ⟨b.x, 0, none⟩)), (3, .pointer (some ⟨b3, 0, none⟩)), (6, .bool gd)] R (blk b3 (msgC m ve) 48 :: ndB b v x :: lgN b v x :: dkB b.d v.u D :: dkS v.u D :: prA v x :: mpA v.vm x.votes :: outA v x :: F) := by
   rintro gd hgd
   try dsimp only
   refine hK4 _ _ _ ?_
   refine cj_seq fun K5 hK5 => ?_
   have hJ5 : ∀ (fr : Bool), fr = (decide (x.g.vote = -1) || decide (x.g.vote = m.frm)) → EJ ⟨Tryz.prog, 94, σ⟩ K5 [(0, .pointer (some ⟨b.x, 0, none⟩)), (3, .pointer (some ⟨b3, 0, none⟩)), (6, .bool gd), (7, .bool fr)] R (blk b3 (msgC m ve) 48 :: ndB b v x :: lgN b v x :: dkB b.d v.u D :: dkS v.u D :: prA v x :: mpA v.vm x.votes :: outA v x :: F) := by
    rintro fr hfr
    try dsimp only
    refine hK5 _ _ _ ?_
    refine cj_seq fun K6 hK6 => ?_
    have hJ6 : ∀ (gr : Bool), gr = x.grants m → EJ ⟨Tryz.prog, 94, σ⟩ K6 [(0, .pointer (some ⟨b.x, 0, none⟩)), (3, .pointer (some ⟨b3, 0, none⟩)), (8, .bool gr)] R (blk b3 (msgC m ve) 48 :: ndB b v x :: lgN b v x :: dkB b.d v.u D :: dkS v.u D :: prA v x :: mpA v.vm x.votes :: outA v x :: F) := by
     rintro gr hgr
     try dsimp only
     refine hK6 _ _ _ ?_
     refine cj_seq fun K7 hK7 => ?_
     have hJ9 : ∀ (x9 : ND × NV × DK × Hp), NIn (k + 1) x9.1 ∧ NOk x9.2.2.2 x9.2.1 x9.1 ∧ R.le x9.2.2.2 ∧ askedN (x, D) m = (true, (x9.1.send (ND.voteMsg m gr), x9.2.2.1)) → EJ ⟨Tryz.prog, 94, σ⟩ K7 [(0, .pointer (some ⟨b.x, 0, none⟩)), (3, .pointer (some ⟨b3, 0, none⟩)), (8, .bool gr)] x9.2.2.2 (blk b3 (msgC m ve) 48 :: ndB b x9.2.1 x9.1 :: lgN b x9.2.1 x9.1 :: dkB b.d x9.2.1.u x9.2.2.1 :: dkS x9.2.1.u x9.2.2.1 :: prA x9.2.1 x9.1 :: mpA x9.2.1.vm x9.1.votes :: outA x9.2.1 x9.1 :: F) := by
      rintro ⟨y, v2, D2, R2⟩ ⟨hy, hv2, hR2, hF⟩
      try dsimp only
      dsimp only at hy hv2 hR2 hF
      have hyo := hy.out
      refine hK7 _ _ _ ?_
      refine cj_region ?_
      refine Pm ?_
      refine Pa (Ga Tryz.underlying48 Tryz.sizeOf3) ?_
      first | refine Pa (La o3) ?_ | refine Pa (Ls o3) ?_
      refine Pm ?_
      refine Pa (y_build (cells := [_, _, _, _, _, _, _, _, _, _]) [(0, 1), (1, 1), (2, 1), (3, 1), (4, 1), (5, 1), (6, 1), (7, 1), (8, 1), (9, 1)] Tryz.underlying48 Tryz.zeroValue48 (fun _ => rfl) rfl rfl) ?_
      refine Ra Tryz.call62 (send_t b v2 y (ND.voteMsg m gr) (.slice none 0 0) hv2.out hv2.vo (by omega) FrX.nil) ?_
      rintro r R6 L' hR6 ⟨vo, css, hels, hvo2, rfl⟩
      try simp only [cA, nA]
      refine rj_nil ?_
      refine hend _ _ _ ?_
      apply ej_end Tryz.results41 .nil _ (ndL b (v2.sent vo css) (y.send (ND.voteMsg m gr)) D2) (Hp.le_trans hR2 hR6) rfl
      case hp => rw [hF]; exact ⟨rfl, _, hv2.sent (y := y.send (ND.voteMsg m gr)) hR6 ⟨rfl, rfl⟩ hels hvo2, rfl⟩
      case hS => exact sb_
     refine cj_seq fun K8 hK8 => ?_
     refine cj_region ?_
     refine Pm ?_
     refine rj_nil ?_
     refine hK8 _ _ _ ?_
     refine cj_cond rfl (fun hc70 => ?_) (fun hc70 => ?_)
     ·have g1 : gr = true := hc70
      refine cj_seq fun K10 hK10 => ?_
      refine cj_mixg (L := [ndB b v x, blk b3 (msgC m ve) 48]) [0, 1, 2, 3, 4, 5, 6, 7, 8, 10, 11] [9, 12] [13] _ sb_ (by kernel_rfl) (by kernel_rfl) (by kernel_rfl) rfl ?_
      refine Wa rfl (fun R1 hR1 G => (y_move rfl)) ?_
      refine Wa rfl (fun R1 hR1 G => (y_move rfl)) ?_
      refine Wa rfl (fun R1 hR1 G => (y_nilCheck rfl)) ?_
      refine Wa rfl (fun R1 hR1 G => (Ga Tryz.underlying81 Tryz.sizeOf44)) ?_
      first | refine Wa rfl (fun R1 hR1 G => (La o44)) ?_ | refine Wa rfl (fun R1 hR1 G => (Ls o44)) ?_
      refine Wa rfl (fun R1 hR1 G => (y_move rfl)) ?_
      refine Wa rfl (fun R1 hR1 G => (y_nilCheck rfl)) ?_
      refine Wa rfl (fun R1 hR1 G => (Ga Tryz.underlying81 Tryz.sizeOf44)) ?_
      first | refine Wa rfl (fun R1 hR1 G => (La o44)) ?_ | refine Wa rfl (fun R1 hR1 G => (Ls o44)) ?_
      refine Wa rfl (fun R1 hR1 G => (Ga Tryz.underlying48 Tryz.sizeOf3)) ?_
      first | refine Wa rfl (fun R1 hR1 G => (La o3)) ?_ | refine Wa rfl (fun R1 hR1 G => (Ls o3)) ?_
      refine fj_nil ?_
      refine xj_rj rfl ?_
      try simp only [cA, nA, List.append_nil]
      refine Pa (Ca Tryz.call13 (lgTerm_q b.l (some ⟨b.d, 0, none⟩) v.va x.g)) ?_
      refine rj_xk le_ sb_ ?_
      refine xj_rj rfl ?_
      try simp only [cA, nA, List.append_nil]
      refine Ra Tryz.call40 (lgSetTerm_t b.l b.d v.va v.u x.g D n x.g.term m.frm hg (by unfold u64B; omega) (by omega) (by omega) hva.one hD (by omega)) ?_
      rintro r R4 L' hR4 ⟨rfl, u2, rfl⟩
      rw [← hra]
      have hall : ra.2.1.all = x.g.all := by rw [hra]; exact setD_all
      have hAs : askedN (x, D) m = bindN (mustN (x, D) ra) fun s => (true, ({ s.1 with patience := 0 }.send (ND.voteMsg m true), s.2)) := by unfold askedN; rw [if_pos (by rw [← hgr]; exact g1), hra]
      try simp only [cA, nA]
      refine rj_xk le_ sb_ ?_
      refine xj_nil ?_
      try simp only [cA, nA, List.append_nil]
      refine rj_call (wn0 rfl) rfl Tryz.call39 rfl (must_t b (v.logd u2 v.va) x _) sp_ (fun ch Rp Lp hRp hpp => ?_) ?_
      · obtain ⟨he1, rfl, rfl⟩ := hpp
        try simp only [cA, nA]
        refine hpan _ _ _ _ ?_
        refine ej_pan _ (ndL b (v.logd u2 v.va) { x with g := ra.2.1, down := true } ra.2.2) (by first | exact Hp.le_refl _ | assumption | exact Hp.le_trans ‹_› ‹_› | exact Hp.le_trans hR4 hRp) rfl sb_ ?_
        exact ⟨by rw [hAs]; simp [bindN, mustN, he1], rfl, v.logd u2 v.va, by rw [hAs]; simp only [bindN, mustN, if_neg he1]; exact hv.logd (y := { x with g := ra.2.1, down := true }) (Hp.le_trans hR4 hRp) ⟨rfl, rfl⟩ (by show FrX entE Rp ra.2.1.all v.va; rw [hall]; exact hva.mono (Hp.le_trans hR4 hRp)), by rw [hAs]; simp [bindN, mustN, he1]⟩
      rintro r R5 L' hR5 ⟨he0, rfl⟩
      have hx1 : NIn (k + 1) { x with g := ra.2.1, patience := 0 } := by rw [hra, setD_ok (by rw [← hra]; exact he0)]; exact (hx.set (t := x.g.term) (vt := m.frm) (by omega) (by omega)).pat (p := 0) (by omega)
      have hR45 := Hp.le_trans hR4 hR5
      have hv1 : NOk R5 (v.logd u2 v.va) { x with g := ra.2.1, patience := 0 } := hv.logd (y := { x with g := ra.2.1, patience := 0 }) hR45 ⟨rfl, rfl⟩ (by show FrX entE R5 ra.2.1.all v.va; rw [hall]; exact hva.mono hR45)
      try simp only [cA, nA]
      refine rj_nil ?_
      refine hK10 _ _ _ ?_
      refine cj_env (eL 0 rfl (eL 3 rfl (eL 8 rfl eN))) ?_
      refine cj_region ?_
      refine Pm ?_
      refine Pa (y_nilCheck rfl) ?_
      refine Pa (Ga Tryz.underlying81 Tryz.sizeOf3) ?_
      refine Sa o3 ?_
      refine rj_nil ?_
      refine ej_join hJ9 (({ x with g := ra.2.1, patience := 0 }, v.logd u2 v.va, ra.2.2, R5)) (⟨hx1, hv1, hR45, by rw [hAs, g1]; simp [bindN, mustN, he0]⟩) (eC rfl (eC rfl (eC rfl eN))) rfl sb_
     ·have g1 : gr = false := by simpa using hc70
      refine cj_skip ?_
      refine ej_join hJ9 ((x, v, D, R)) (⟨hx.le (by omega), hv, Hp.le_refl _, by unfold askedN; rw [if_neg (by rw [← hgr, g1]; simp), g1]⟩) (eC rfl (eC rfl (eC rfl eN))) rfl sb_
    refine cj_draw (by kernel_rfl) (by kernel_rfl) ?_
    refine Qa (Ga Tryz.underlying48 Tryz.sizeOf31) ?_
    first | refine Qa (La o31) ?_ | refine Qa (Ls o31) ?_
    refine Qa (y_move rfl) ?_
    refine Qa (y_nilCheck rfl) ?_
    refine Qa (Ga Tryz.underlying81 Tryz.sizeOf44) ?_
    first | refine Qa (La o44) ?_ | refine Qa (Ls o44) ?_
    refine Qa (Ca Tryz.call13 (lgTerm_q b.l (some ⟨b.d, 0, none⟩) v.va x.g)) ?_
    refine Qa (y_eql rfl rfl) ?_
    refine Qa (y_move rfl) ?_
    refine qj_part 57 rfl (fun hg57 => ?_) (fun hg57 => ?_)
    ·have f6 : m.term = x.g.term := by simpa using hg57
     refine Qb (y_move rfl) ?_
     refine Qb (y_nilCheck rfl) ?_
     refine Qb (Ga Tryz.underlying81 Tryz.sizeOf3) ?_
     first | refine Qb (La o3) ?_ | refine Qb (Ls o3) ?_
     refine Qb (y_eql rfl rfl) ?_
     refine Qa (y_pick_t rfl rfl) ?_
     refine Qa (y_move rfl) ?_
     refine qj_part 64 rfl (fun hg64 => ?_) (fun hg64 => ?_)
     ·first|(have f7 : x.role = 0 := by simpa using hg64)|skip
      refine Qb (y_move rfl) ?_
      refine Qa (y_pick_t rfl rfl) ?_
      refine Qa (y_move rfl) ?_
      refine qj_part 67 rfl (fun hg67 => ?_) (fun hg67 => ?_)
      ·first|(have f8 : fr = true := by simpa using hg67)|skip
       refine Qb (y_move rfl) ?_
       refine Qa (y_pick_t rfl rfl) ?_
       refine Qa (y_assign rfl) ?_
       refine qj_nil ?_
       refine ej_join hJ6 (_) (by unfold ND.grants; rw [← hgd, ← hfr]; first|(simp [f6, f7, f8]; done)|(simp [f6, f7]; done)|(simp [f6]; done)) (eC rfl (eC rfl (eC rfl eN))) rfl sb_
      ·first|(have f8 : fr = false := by simpa using hg67)|skip
       refine Qk ?_
       refine Qa (y_pick_f rfl rfl) ?_
       refine Qa (y_assign rfl) ?_
       refine qj_nil ?_
       refine ej_join hJ6 (_) (by unfold ND.grants; rw [← hgd, ← hfr]; first|(simp [f6, f7, f8]; done)|(simp [f6, f7]; done)|(simp [f6]; done)) (eC rfl (eC rfl (eC rfl eN))) rfl sb_
     ·first|(have f7 : ¬ x.role = 0 := by simpa using hg64)|skip
      refine Qk ?_
      refine Qa (y_pick_f rfl rfl) ?_
      refine Qa (y_move rfl) ?_
      refine Qk ?_
      refine Qa (y_pick_f rfl rfl) ?_
      refine Qa (y_assign rfl) ?_
      refine qj_nil ?_
      refine ej_join hJ6 (_) (by unfold ND.grants; rw [← hgd, ← hfr]; first|(simp [f6, f7, f8]; done)|(simp [f6, f7]; done)|(simp [f6]; done)) (eC rfl (eC rfl (eC rfl eN))) rfl sb_
    ·have f6 : ¬ m.term = x.g.term := by simpa using hg57
     refine Qk ?_
     refine Qk ?_
     refine Qk ?_
     refine Qk ?_
     refine Qk ?_
     refine Qa (y_pick_f rfl rfl) ?_
     refine Qa (y_move rfl) ?_
     refine Qk ?_
     refine Qa (y_pick_f rfl rfl) ?_
     refine Qa (y_move rfl) ?_
     refine Qk ?_
     refine Qa (y_pick_f rfl rfl) ?_
     refine Qa (y_assign rfl) ?_
     refine qj_nil ?_
     refine ej_join hJ6 (_) (by unfold ND.grants; rw [← hgd, ← hfr]; first|(simp [f6, f7, f8]; done)|(simp [f6, f7]; done)|(simp [f6]; done)) (eC rfl (eC rfl (eC rfl eN))) rfl sb_
   refine cj_draw (by kernel_rfl) (by kernel_rfl) ?_
   refine Qa (y_move rfl) ?_
   refine Qa (y_nilCheck rfl) ?_
   refine Qa (Ga Tryz.underlying81 Tryz.sizeOf44) ?_
   first | refine Qa (La o44) ?_ | refine Qa (Ls o44) ?_
   refine Qa (Ca Tryz.call14 (lgVote_q b.l (some ⟨b.d, 0, none⟩) v.va x.g)) ?_
   refine Qa (y_eql rfl rfl) ?_
   refine Qa (y_move rfl) ?_
   refine qj_part 39 rfl (fun hg39 => ?_) (fun hg39 => ?_)
   ·have f5 : x.g.vote = -1 := by simpa using hg39
    refine Qk ?_
    refine Qk ?_
    refine Qk ?_
    refine Qk ?_
    refine Qk ?_
    refine Qk ?_
    refine Qk ?_
    refine Qk ?_
    refine Qa (y_pick_t rfl rfl) ?_
    refine Qa (y_assign rfl) ?_
    refine qj_nil ?_
    refine ej_join hJ5 (_) (by simp [f5]) (eC rfl (eC rfl (eC rfl (eC rfl eN)))) rfl sb_
   ·have f5 : ¬ x.g.vote = -1 := by simpa using hg39
    refine Qb (y_move rfl) ?_
    refine Qb (y_nilCheck rfl) ?_
    refine Qb (Ga Tryz.underlying81 Tryz.sizeOf44) ?_
    first | refine Qb (La o44) ?_ | refine Qb (Ls o44) ?_
    refine Qb (Ca Tryz.call14 (lgVote_q b.l (some ⟨b.d, 0, none⟩) v.va x.g)) ?_
    refine Qb (Ga Tryz.underlying48 Tryz.sizeOf3) ?_
    first | refine Qb (La o3) ?_ | refine Qb (Ls o3) ?_
    refine Qb (y_eql rfl rfl) ?_
    refine Qa (y_pick_f rfl rfl) ?_
    refine Qa (y_assign rfl) ?_
    refine qj_nil ?_
    refine ej_join hJ5 (_) (by simp [f5]) (eC rfl (eC rfl (eC rfl (eC rfl eN)))) rfl sb_
  refine cj_region ?_
  refine Pa (Ga Tryz.underlying48 Tryz.sizeOf31) ?_
  first | refine Pa (La o31) ?_ | refine Pa (Ls o31) ?_
  refine Pm ?_
  refine Pa (y_gtr rfl rfl) ?_
  refine Pm ?_
  refine rj_part 21 rfl (fun hg21 => ?_) (fun hg21 => ?_)
  ·have f3 : x.tAt x.g.last < m.logTerm := by simpa using hg21
   refine Pk ?_
   refine Pk ?_
   refine Pk ?_
   refine Pk ?_
   refine Pk ?_
   refine rj_skip (wn3 rfl rfl rfl rfl) rfl rfl ?_
   refine rj_skip (wn3 rfl rfl rfl rfl) rfl rfl ?_
   refine rj_skip (wn3 rfl rfl rfl rfl) rfl rfl ?_
   refine rj_skip (wn3 rfl rfl rfl rfl) rfl rfl ?_
   refine Pk ?_
   refine Pa (y_pick_t rfl rfl) ?_
   refine Ps ?_
   refine rj_nil ?_
   refine ej_join hJ4 (_) (by unfold ND.good; first|(simp [f3, f4]; done)|(simp [f3]; done)|(rw [f4] at f3 ⊢; simp)) (eC rfl (eC rfl (eC rfl eN))) rfl sb_
  ·have f3 : ¬ x.tAt x.g.last < m.logTerm := by simpa using hg21
   refine Pb (Ga Tryz.underlying48 Tryz.sizeOf31) ?_
   first | refine Pb (La o31) ?_ | refine Pb (Ls o31) ?_
   refine Pb (y_move rfl) ?_
   refine Pb (y_eql rfl rfl) ?_
   refine Pb (y_move rfl) ?_
   refine rj_part 26 rfl (fun hg26 => ?_) (fun hg26 => ?_)
   ·have f4 : m.logTerm = x.tAt x.g.last := by simpa using hg26
    refine Pb (Ga Tryz.underlying48 Tryz.sizeOf31) ?_
    first | refine Pb (La o31) ?_ | refine Pb (Ls o31) ?_
    refine Pb (y_move rfl) ?_
    refine Pb (y_geq rfl rfl) ?_
    refine Pb (y_pick_t rfl rfl) ?_
    refine Pa (y_pick_f rfl rfl) ?_
    refine Ps ?_
    refine rj_nil ?_
    refine ej_join hJ4 (_) (by unfold ND.good; first|(simp [f3, f4]; done)|(simp [f3]; done)|(rw [f4] at f3 ⊢; simp)) (eC rfl (eC rfl (eC rfl eN))) rfl sb_
   ·have f4 : ¬ m.logTerm = x.tAt x.g.last := by simpa using hg26
    refine Pk ?_
    refine Pk ?_
    refine Pk ?_
    refine Pk ?_
    refine Pb (y_pick_f rfl rfl) ?_
    refine Pa (y_pick_f rfl rfl) ?_
    refine Ps ?_
    refine rj_nil ?_
    refine ej_join hJ4 (_) (by unfold ND.good; first|(simp [f3, f4]; done)|(simp [f3]; done)|(rw [f4] at f3 ⊢; simp)) (eC rfl (eC rfl (eC rfl eN))) rfl sb_
theorem nodup_lt : ∀ (n : Nat) (l : List Int), l.Nodup → (∀ i ∈ l, 0 ≤ i ∧ i < (n : Int)) → l.length ≤ n
  | 0, l, _, h => by
    cases l with
    | nil => simp
    | cons a l => have := h a (by simp); omega
  | n + 1, l, hd, h => by
    have h1 := nodup_lt n (l.erase (n : Int)) (hd.erase _) (fun i hi => by
      rw [hd.mem_erase_iff] at hi
      have := h i hi.2
      have := hi.1
      omega)
    have h2 := List.length_erase (l := l) (a := (n : Int))
    rw [h2] at h1
    split at h1 <;> omega
theorem setAdd_ok {l : List Int} (hd : l.Nodup) (i : Int) : (setAdd l i).Nodup := by
  unfold setAdd
  split
  · exact hd
  · rename_i h
    rw [List.nodup_append]
    exact ⟨hd, by simp, fun a ha b hb => by simp at hb; subst hb; intro e; subst e; exact h ha⟩
theorem setAdd_mem {l : List Int} {i j : Int} (h : j ∈ setAdd l i) : j ∈ l ∨ j = i := by
  unfold setAdd at h
  split at h
  · exact .inl h
  · simpa using h
theorem votesF_add (l : List Int) (i : Int) : fset (votesF l) i (.bool true) = votesF (setAdd l i) := by
  funext k
  unfold fset votesF setAdd
  by_cases hi : i ∈ l
  · rw [if_pos hi]
    by_cases hk : k = i
    · subst hk; simp [hi]
    · simp [hk]
  · rw [if_neg hi]
    by_cases hk : k = i
    · subst hk; simp
    · simp [hk]
theorem setAdd_len (l : List Int) (i : Int) : (if (votesF l i).isSome then l.length else l.length + 1) = (setAdd l i).length := by
  unfold votesF setAdd
  by_cases hi : i ∈ l <;> simp [hi]
theorem NIn.vote1 {k : Nat} {x : ND} (h : NIn k x) {i : Int} (hi : 0 ≤ i ∧ i < (x.n : Int)) : NIn k { x with votes := setAdd x.votes i } :=
  ⟨h.idn, h.term, h.vote, h.base, h.baseT, h.state, h.alln, h.all, h.commit, h.patience, h.peers, h.peer, ⟨setAdd_ok h.votes.1 i, fun j hj => by
    rcases setAdd_mem hj with hj | hj
    · exact h.votes.2 j hj
    · subst hj; exact hi⟩, h.out⟩
theorem cj_turnA {c : Cx} {x : Code} {Q : Exit → Act → World → Prop} {E : Env} {R : Hp} {L M : List Asn} {A B : Asn} (f : Find A L M) (hA : ∀ h, A h → B h) (h : CJ c x Q E R (B :: M)) : CJ c x Q E R L := fun a w hf hs => h a w hf ((hs.find f).turn hA)
theorem voted_t {R : Hp} (b : NB) (v : NV) (x : ND) (D : DK) (m : Msg) (ve : Value) (k n : Nat) (hk : k ≤ 50) (hx : NIn k x) (hv : NOk R v x) (hm : MIn k x.n m) (hve : FrX entE R m.es ve) (hD : D.ok n) (hn : n ≤ 800000000) :
    Tri Tryz.prog 42 [.pointer (some ⟨b.x, 0, none⟩), .agg ⟨msgC m ve⟩] R (ndL b v x D) (NRet b (votedN (x, D) m)) (NPan b (votedN (x, D) m)) := by
  have hidn := hx.idn
  have hfrm := hm.frm
  have hveo := hve.one
  have hy := hx.vote1 hfrm
  have hyl := nodup_lt x.n _ hy.votes.1 hy.votes.2
  replace hyl : (setAdd x.votes m.frm).length ≤ x.n := hyl
  refine tri_of Tryz.func42 rfl Tryz.ntmps42 rfl (fun σ F Q hret hend hpan => ?_)
  try simp only [cA, nA]
  refine cj_seq fun K1 hK1 => ?_
  refine cj_region ?_
  refine rj_box (wn0 rfl) rfl rfl rfl (fun b3 => ?_)
  refine rj_nil ?_
  refine hK1 _ _ _ ?_
  refine cj_seq fun K2 hK2 => ?_
  refine cj_seq fun K3 hK3 => ?_
  refine cj_draw (by kernel_rfl) (by kernel_rfl) ?_
  refine Qa (y_move rfl) ?_
  refine Qa (y_nilCheck rfl) ?_
  refine Qa (Ga Tryz.underlying81 Tryz.sizeOf3) ?_
  first | refine Qa (La o3) ?_ | refine Qa (Ls o3) ?_
  refine Qa (y_neq rfl rfl) ?_
  refine Qa (y_move rfl) ?_
  refine qj_part 9 rfl (fun hg9 => ?_) (fun hg9 => ?_)
  ·have f0 : ¬ x.role = 1 ∨ ¬ m.term = x.g.term ∨ m.ok = false := .inl (by simpa using hg9)
   refine Qk ?_
   refine Qk ?_
   refine Qk ?_
   refine Qk ?_
   refine Qk ?_
   refine Qk ?_
   refine Qk ?_
   refine Qk ?_
   refine Qa (y_pick_t rfl rfl) ?_
   refine Qa (y_move rfl) ?_
   refine Qk ?_
   refine Qk ?_
   refine Qk ?_
   refine Qa (y_pick_t rfl rfl) ?_
   refine qj_nil ?_
   refine hK3 _ _ _ ?_
   refine cj_env (eL 0 rfl (eL 3 rfl (eL 23 rfl eN))) ?_
   refine cj_cond_t rfl ?_
   refine cj_ret ?_
   refine hret _ _ _ ?_
   refine Ea Tryz.results42 .nil (ndL b v x D) (by first | exact Hp.le_refl _ | assumption) ?_
   rw [show votedN (x, D) m = (true, (x, D)) by unfold votedN; rw [if_pos f0]]; exact ⟨rfl, v, hv, rfl⟩
  ·have f1 : x.role = 1 := by simpa using hg9
   refine Qb (Ga Tryz.underlying48 Tryz.sizeOf31) ?_
   first | refine Qb (La o31) ?_ | refine Qb (Ls o31) ?_
   refine Qb (y_move rfl) ?_
   refine Qb (y_nilCheck rfl) ?_
   refine Qb (Ga Tryz.underlying81 Tryz.sizeOf44) ?_
   first | refine Qb (La o44) ?_ | refine Qb (Ls o44) ?_
   refine Qb (Ca Tryz.call13 (lgTerm_q b.l (some ⟨b.d, 0, none⟩) v.va x.g)) ?_
   refine Qb (y_neq rfl rfl) ?_
   refine Qa (y_pick_f rfl rfl) ?_
   refine Qa (y_move rfl) ?_
   refine qj_part 19 rfl (fun hg19 => ?_) (fun hg19 => ?_)
   ·first|(have f0 : ¬ x.role = 1 ∨ ¬ m.term = x.g.term ∨ m.ok = false := .inr (.inl (by simpa using hg19)))|skip
    refine Qk ?_
    refine Qk ?_
    refine Qk ?_
    refine Qa (y_pick_t rfl rfl) ?_
    refine qj_nil ?_
    refine hK3 _ _ _ ?_
    refine cj_cond_t rfl ?_
    refine cj_ret ?_
    refine hret _ _ _ ?_
    refine Ea Tryz.results42 .nil (ndL b v x D) (by first | exact Hp.le_refl _ | assumption) ?_
    rw [show votedN (x, D) m = (true, (x, D)) by unfold votedN; rw [if_pos f0]]; exact ⟨rfl, v, hv, rfl⟩
   ·first|(have f2 : m.term = x.g.term := by simpa using hg19)|skip
    refine Qb (Ga Tryz.underlying48 Tryz.sizeOf4) ?_
    first | refine Qb (La o4) ?_ | refine Qb (Ls o4) ?_
    refine Qb (y_not rfl) ?_
    refine Qa (y_pick_f rfl rfl) ?_
    refine qj_nil ?_
    refine hK3 _ _ _ ?_
    refine cj_env (eL 0 rfl (eL 3 rfl (eL 23 rfl eN))) ?_
    refine cj_cond rfl (fun hc23 => ?_) (fun hc23 => ?_)
    ·first|(have f0 : ¬ x.role = 1 ∨ ¬ m.term = x.g.term ∨ m.ok = false := .inr (.inr (by simpa using hc23)))|skip
     refine cj_ret ?_
     refine hret _ _ _ ?_
     refine Ea Tryz.results42 .nil (ndL b v x D) (by first | exact Hp.le_refl _ | assumption) ?_
     rw [show votedN (x, D) m = (true, (x, D)) by unfold votedN; rw [if_pos f0]]; exact ⟨rfl, v, hv, rfl⟩
    ·have f3 : m.ok = true := by simpa using hc23
     have f0 : ¬ (¬ x.role = 1 ∨ ¬ m.term = x.g.term ∨ m.ok = false) := by simp [f1, f2, f3]
     obtain ⟨mm, hmm⟩ := hv.map f1
     refine cj_skip ?_
     refine hK2 _ _ _ ?_
     refine cj_seq fun K5 hK5 => ?_
     refine cj_mixg (L := [ndB b v x, blk b3 (msgC m ve) 48]) [0, 1, 2, 3, 4, 5] [] [6] _ sb_ (by kernel_rfl) (by kernel_rfl) (by kernel_rfl) rfl ?_
     refine Wa rfl (fun R1 hR1 G => (y_move rfl)) ?_
     refine Wa rfl (fun R1 hR1 G => (y_nilCheck rfl)) ?_
     refine Wa rfl (fun R1 hR1 G => (Ga Tryz.underlying81 Tryz.sizeOf42)) ?_
     refine Wa rfl (fun R1 hR1 G => (Yld.to (u := .map (some mm)) (La o42) hmm)) ?_
     refine Wa rfl (fun R1 hR1 G => (Ga Tryz.underlying48 Tryz.sizeOf3)) ?_
     first | refine Wa rfl (fun R1 hR1 G => (La o3)) ?_ | refine Wa rfl (fun R1 hR1 G => (Ls o3)) ?_
     refine fj_nil ?_
     refine xj_nil ?_
     try simp only [cA, nA, List.append_nil]
     refine rj_turn (A := mpA v.vm x.votes) (B := mapF mm .i64 (votesF x.votes) x.votes.length) fd_ (fun h hh => by rw [hmm] at hh; exact hh) ?_
     refine rj_mapUpdate Tryz.underlying42 Tryz.underlying3 (wn0 rfl) rfl rfl rfl fd_ ?_
     rw [votesF_add, setAdd_len]
     refine rj_nil ?_
     refine hK5 _ _ _ ?_
     refine cj_seq fun K6 hK6 => ?_
     refine cj_draw (by kernel_rfl) (by kernel_rfl) ?_
     refine Qa (y_move rfl) ?_
     refine Qa (y_nilCheck rfl) ?_
     refine Qa (Ga Tryz.underlying81 Tryz.sizeOf42) ?_
     refine Qa ((Yld.to (u := .map (some mm)) (La o42) hmm)) ?_
     refine Qa (y_len_map Tryz.underlying42 rfl fd_) ?_
     refine Qa ((y_mul64 rfl rfl (by omega))) ?_
     refine Qa (y_move rfl) ?_
     refine Qa (y_nilCheck rfl) ?_
     refine Qa (Ga Tryz.underlying81 Tryz.sizeOf3) ?_
     first | refine Qa (La o3) ?_ | refine Qa (Ls o3) ?_
     refine Qa (y_gtr rfl rfl) ?_
     refine qj_nil ?_
     refine hK6 _ _ _ ?_
     refine cj_cond rfl (fun hc40 => ?_) (fun hc40 => ?_)
     ·have f4 : 2 * ((setAdd x.votes m.frm).length : Int) > x.n := by (try simp at hc40); omega
      have hE : votedN (x, D) m = winN ({ x with votes := setAdd x.votes m.frm }, D) := by unfold votedN; rw [if_neg f0, if_pos f4]
      refine cj_turnA (A := mapF mm .i64 (votesF (setAdd x.votes m.frm)) (setAdd x.votes m.frm).length) (B := mpA v.vm (setAdd x.votes m.frm)) fd_ (fun h hh => by rw [hmm]; exact hh) ?_
      refine cj_region ?_
      refine Pm ?_
      refine rj_call (wn0 rfl) rfl Tryz.call64 rfl (win_t b v { x with votes := setAdd x.votes m.frm } D k n (by omega) hy (hv.to (Hp.le_refl _) ⟨rfl, rfl, rfl⟩) hD (by omega)) sp_ (fun ch Rp Lp hRp hpp => ?_) ?_
      · obtain ⟨hF, rfl, v3, hv3, rfl⟩ := hpp
        try simp only [cA, nA]
        refine hpan _ _ _ _ ?_
        refine ej_pan _ (ndL b v3 (winN ({ x with votes := setAdd x.votes m.frm }, D)).2.1 (winN ({ x with votes := setAdd x.votes m.frm }, D)).2.2) (by first | exact Hp.le_refl _ | assumption | exact Hp.le_trans ‹_› ‹_›) rfl sb_ ?_
        exact ⟨by rw [hE]; exact hF, rfl, v3, by rw [hE]; exact hv3, by rw [hE]⟩
      rintro r R8 L' hR8 ⟨hF, v3, hv3, rfl⟩
      try simp only [cA, nA]
      refine rj_nil ?_
      refine hend _ _ _ ?_
      apply ej_end Tryz.results42 .nil _ (ndL b v3 (winN ({ x with votes := setAdd x.votes m.frm }, D)).2.1 (winN ({ x with votes := setAdd x.votes m.frm }, D)).2.2) (by first | exact Hp.le_refl _ | assumption) rfl
      case hp => rw [hE]; exact ⟨hF, v3, hv3, rfl⟩
      case hS => exact sb_
     ·have f4 : ¬ 2 * ((setAdd x.votes m.frm).length : Int) > x.n := by (try simp at hc40); omega
      have hE : votedN (x, D) m = (true, ({ x with votes := setAdd x.votes m.frm }, D)) := by unfold votedN; rw [if_neg f0, if_neg f4]
      refine cj_turnA (A := mapF mm .i64 (votesF (setAdd x.votes m.frm)) (setAdd x.votes m.frm).length) (B := mpA v.vm (setAdd x.votes m.frm)) fd_ (fun h hh => by rw [hmm]; exact hh) ?_
      refine cj_skip ?_
      refine hend _ _ _ ?_
      apply ej_end Tryz.results42 .nil _ (ndL b v { x with votes := setAdd x.votes m.frm } D) (by first | exact Hp.le_refl _ | assumption) rfl
      case hp => rw [hE]; exact ⟨rfl, v, hv.to (Hp.le_refl _) ⟨rfl, rfl, rfl⟩, rfl⟩
      case hS => exact sb_
end V
end Go.Proofs.YtjdbigplednihaaGreat
set_option linter.unusedSimpArgs false
set_option linter.unusedVariables false
set_option maxRecDepth 100000
namespace Go.Proofs.YtjdbigplednihaaGreat
open Go.RowKit
namespace V
set_option maxHeartbeats 4000000
theorem NIn.setPeer {k : Nat} {x : ND} (h : NIn k x) (to : Nat) {p : Int × Int} (hp : (1 ≤ p.1 ∧ p.1 ≤ 200000000000000) ∧ (0 ≤ p.2 ∧ p.2 ≤ 150000000000000)) : NIn k (x.setPeer to p) :=
  ⟨h.idn, h.term, h.vote, h.base, h.baseT, h.state, h.alln, h.all, h.commit, h.patience, fun hr => by show (x.peers.set to p).length = _; rw [List.length_set]; exact h.peers hr, fun q hq => by
    rcases List.mem_or_eq_of_mem_set hq with hq | hq
    · exact h.peer q hq
    · subst hq; exact hp, h.votes, h.out⟩
theorem slc_shapeP {e : TypeId} {sz n : Nat} {v : Value} {xs : List Value} (hn : 0 < n) (h : Hp) (hs : slc e sz v n xs h) : ∃ (g o cap : Nat), v = .slice (some ⟨g, o, none⟩) n cap ∧ n ≤ cap := by
  obtain ⟨_, ⟨_, h0⟩ | ⟨g, cap, fz, pre, post, hv, _, _, hc, _⟩⟩ := hs
  · omega
  · exact ⟨g, pre.length, cap, hv, hc⟩
theorem peer_b {k : Nat} {x : ND} (hx : NIn k x) {i : Nat} (hi : i < x.peers.length) : (1 ≤ x.nxt i ∧ x.nxt i ≤ 200000000000000) ∧ (0 ≤ x.mat i ∧ x.mat i ≤ 150000000000000) := by
  have : x.peers.getD i (0, 0) ∈ x.peers := by rw [List.getD_eq_getElem?_getD, List.getElem?_eq_getElem hi]; simp
  exact hx.peer _ this
theorem set_getDp {l : List (Int × Int)} {i : Nat} (h : i < l.length) (p : Int × Int) : (l.set i p).getD i (0, 0) = p := by
  simp [List.getD_eq_getElem?_getD, h]
theorem cellV_mk (g o n k j : Nat) : cellV (.slice (some ⟨g, o, none⟩) n k) j = .pointer (some ⟨g, o + j, none⟩) := by simp [cellV, add_mk]
theorem heard_t {R : Hp} (b : NB) (v : NV) (x : ND) (D : DK) (m : Msg) (ve : Value) (k : Nat) (hk : k ≤ 50) (hx : NIn k x) (hv : NOk R v x) (hm : MIn k x.n m) (hve : FrX entE R m.es ve) :
    Tri Tryz.prog 44 [.pointer (some ⟨b.x, 0, none⟩), .agg ⟨msgC m ve⟩] R (ndL b v x D) (NRet b (heardN (x, D) m)) (NPan b (heardN (x, D) m)) := by
  have hidn := hx.idn
  have hfrm := hm.frm
  have hveo := hve.one
  have hidx := hm.index
  have hg := hx.g (by omega)
  have hlb := LG.last_b hg
  obtain ⟨to, hto⟩ : ∃ to, to = m.frm.toNat := ⟨_, rfl⟩
  have hfto : m.frm = (to : Int) := by omega
  obtain ⟨k1, hk1⟩ : ∃ k1, k1 = max (x.mat to) (min m.index x.g.last) := ⟨_, rfl⟩
  have hN : heardN (x, D) m = if ¬ x.role = 2 ∨ ¬ m.term = x.g.term then (true, (x, D)) else if m.ok = false then (true, ((x.setPeer to (max (min (x.nxt to - 1) (m.index + 1)) (x.mat to + 1), x.mat to)).feed to, D)) else if k1 + 1 ≤ (x.setPeer to (k1 + 1, k1)).count.g.last then (true, ((x.setPeer to (k1 + 1, k1)).count.feed to, D)) else (true, ((x.setPeer to (k1 + 1, k1)).count, D)) := by rw [hk1, hto]; rfl
  refine tri_of Tryz.func44 rfl Tryz.ntmps44 rfl (fun σ F Q hret hend hpan => ?_)
  try simp only [cA, nA]
  refine cj_seq fun K1 hK1 => cj_region ?_
  refine rj_box (wn0 rfl) rfl rfl rfl (fun b3 => ?_)
  refine rj_nil (hK1 _ _ _ (cj_seq fun K2 hK2 => cj_seq fun K3 hK3 => ?_))
  refine cj_draw (by kernel_rfl) (by kernel_rfl) ?_
  refine Qa (y_move rfl) ?_
  refine Qa (y_nilCheck rfl) ?_
  refine Qa (Ga Tryz.underlying81 Tryz.sizeOf3) ?_
  first | refine Qa (La o3) ?_ | refine Qa (Ls o3) ?_
  refine Qa (y_neq rfl rfl) ?_
  refine Qa (y_move rfl) ?_
  refine qj_part 10 rfl (fun hg10 => ?_) (fun hg10 => ?_)
  have f0 : ¬ x.role = 2 ∨ ¬ m.term = x.g.term := .inl (by simpa using hg10)
  refine Qk ?_
  refine Qk ?_
  refine Qk ?_
  refine Qk ?_
  refine Qk ?_
  refine Qk ?_
  refine Qk ?_
  refine Qk ?_
  refine Qa (y_pick_t rfl rfl) ?_
  refine qj_nil ?_
  refine hK3 _ _ _ (cj_cond_t rfl (cj_ret (hret _ _ _ ?_)))
  refine Ea Tryz.results44 .nil (ndL b v x D) (by first | exact Hp.le_refl _ | assumption) ?_
  rw [hN, if_pos f0]; exact ⟨rfl, v, hv, rfl⟩
  have f1 : x.role = 2 := by simpa using hg10
  refine Qb (Ga Tryz.underlying48 Tryz.sizeOf31) ?_
  first | refine Qb (La o31) ?_ | refine Qb (Ls o31) ?_
  refine Qb (y_move rfl) ?_
  refine Qb (y_nilCheck rfl) ?_
  refine Qb (Ga Tryz.underlying81 Tryz.sizeOf44) ?_
  first | refine Qb (La o44) ?_ | refine Qb (Ls o44) ?_
  refine Qb (Ca Tryz.call13 (lgTerm_q b.l (some ⟨b.d, 0, none⟩) v.va x.g)) ?_
  refine Qb (y_neq rfl rfl) ?_
  refine Qa (y_pick_f rfl rfl) ?_
  refine qj_nil ?_
  refine hK3 _ _ _ ?_
  refine cj_env (eL 0 rfl (eL 3 rfl (eL 19 rfl eN))) ?_
  refine cj_cond rfl (fun hc19 => ?_) (fun hc19 => ?_)
  first|(have f0 : ¬ x.role = 2 ∨ ¬ m.term = x.g.term := .inr (by simpa using hc19))|skip
  refine cj_ret (hret _ _ _ ?_)
  refine Ea Tryz.results44 .nil (ndL b v x D) (by first | exact Hp.le_refl _ | assumption) ?_
  rw [hN, if_pos f0]; exact ⟨rfl, v, hv, rfl⟩
  have f2 : m.term = x.g.term := by simpa using hc19
  have f0 : ¬ (¬ x.role = 2 ∨ ¬ m.term = x.g.term) := by simp [f1, f2]
  have hpl := hx.peers f1
  have htl : to < x.peers.length := by omega
  obtain ⟨hp1, hp2⟩ := peer_b hx htl
  have hn0 : nth (pairsV x.peers) (m.frm.toNat * 2 + 0) = some (.int .u64 (x.nxt to)) := (pair_nth x.peers to m.frm hfto htl).1
  have hn1 : nth (pairsV x.peers) (m.frm.toNat * 2 + 1) = some (.int .u64 (x.mat to)) := (pair_nth x.peers to m.frm hfto htl).2
  refine cj_pure (A := prA v x) fd_ (fun h hh => slc_shapeP (show 0 < x.peers.length by omega) h hh) (fun hsh => ?_)
  obtain ⟨gp, op, cp, hvp, hcp⟩ := hsh
  rw [if_neg f0] at hN
  refine cj_skip (hK2 _ _ _ (cj_seq fun K5 hK5 => ?_))
  refine cj_draw (by kernel_rfl) (by kernel_rfl) ?_
  refine Qa (y_move rfl) ?_
  refine Qa (y_nilCheck rfl) ?_
  refine Qa (Ga Tryz.underlying81 Tryz.sizeOf79) ?_
  refine Qa ((Yld.to (u := .slice (some ⟨gp, op, none⟩) x.peers.length cp) (La o79) hvp)) ?_
  refine Qa (Ga Tryz.underlying48 Tryz.sizeOf3) ?_
  first | refine Qa (La o3) ?_ | refine Qa (Ls o3) ?_
  refine Qa ((y_indexAddr Tryz.underlying79 Tryz.sizeOf116 rfl rfl (by omega))) ?_
  refine Qa (y_assign rfl) ?_
  refine qj_nil ?_
  refine hK5 _ _ _ (cj_seq fun K6 hK6 => cj_seq fun K7 hK7 => cj_region ?_)
  refine Pa (Ga Tryz.underlying48 Tryz.sizeOf4) ?_
  first | refine Pa (La o4) ?_ | refine Pa (Ls o4) ?_
  refine Pa (y_not rfl) ?_
  refine rj_nil (hK7 _ _ _ ?_)
  refine cj_cond rfl (fun hc29 => ?_) (fun hc29 => ?_)
  have f3 : m.ok = false := by simpa using hc29
  rw [if_pos f3] at hN
  refine cj_seq fun K9 hK9 => ?_
  refine cj_mixg (L := [blk b3 (msgC m ve) 48, prA v x]) [0, 1, 2, 3, 4, 5, 6, 7, 8, 9, 10, 11, 12, 13, 14, 15, 16, 17] [] [18] _ sb_ (by kernel_rfl) (by kernel_rfl) (by kernel_rfl) rfl ?_
  refine Wa rfl (fun R1 hR1 G => (y_move rfl)) ?_
  refine Wa rfl (fun R1 hR1 G => (y_move rfl)) ?_
  refine Wa rfl (fun R1 hR1 G => (y_nilCheck rfl)) ?_
  refine Wa rfl (fun R1 hR1 G => (Ga Tryz.underlying116 Tryz.sizeOf31)) ?_
  refine Wa rfl (fun R1 hR1 G => (y_load_slc (v := v.vp) o31 (by rw [hvp, cellV_mk, ← Nat.add_assoc]; rfl) fd_ hn0)) ?_
  refine Wa rfl (fun R1 hR1 G => (y_subu rfl rfl (by omega))) ?_
  refine Wa rfl (fun R1 hR1 G => (Ga Tryz.underlying48 Tryz.sizeOf31)) ?_
  first | refine Wa rfl (fun R1 hR1 G => (La o31)) ?_ | refine Wa rfl (fun R1 hR1 G => (Ls o31)) ?_
  refine Wa rfl (fun R1 hR1 G => (y_addu rfl rfl (by omega))) ?_
  refine Wa rfl (fun R1 hR1 G => (y_min rfl rfl)) ?_
  refine Wa rfl (fun R1 hR1 G => (y_move rfl)) ?_
  refine Wa rfl (fun R1 hR1 G => (y_nilCheck rfl)) ?_
  refine Wa rfl (fun R1 hR1 G => (Ga Tryz.underlying116 Tryz.sizeOf31)) ?_
  refine Wa rfl (fun R1 hR1 G => (y_load_slc (v := v.vp) o31 (by rw [hvp, cellV_mk, ← Nat.add_assoc]; rfl) fd_ hn1)) ?_
  refine Wa rfl (fun R1 hR1 G => (y_addu rfl rfl (by omega))) ?_
  refine Wa rfl (fun R1 hR1 G => (y_max rfl rfl)) ?_
  refine Wa rfl (fun R1 hR1 G => (y_nilCheck rfl)) ?_
  refine Wa rfl (fun R1 hR1 G => (Ga Tryz.underlying116 Tryz.sizeOf31)) ?_
  refine fj_nil ?_
  refine xj_nil ?_
  try simp only [cA, nA, List.append_nil]
  refine rj_store_slc (v := v.vp) (ys := pairsV (x.setPeer to (max (min (x.nxt to - 1) (m.index + 1)) (x.mat to + 1), x.mat to)).peers) o31 (wn0 rfl) (j := m.frm.toNat * 2 + 0) (by rw [hvp, cellV_mk, ← Nat.add_assoc]; rfl) rfl rfl fd_ (by rw [pairs_len]; omega) (by rw [(pair_set x.peers to m.frm _ hfto htl).1]; rfl) (by omega) ?_
  refine rj_nil (hK9 _ _ _ ?_)
  refine cj_env (eL 0 rfl (eL 3 rfl eN)) ?_
  refine cj_seq fun K10 hK10 => cj_region ?_
  refine Pm ?_
  refine Pa (Ga Tryz.underlying48 Tryz.sizeOf3) ?_
  first | refine Pa (La o3) ?_ | refine Pa (Ls o3) ?_
  obtain ⟨y1, hy1⟩ : ∃ y, y = x.setPeer to (max (min (x.nxt to - 1) (m.index + 1)) (x.mat to + 1), x.mat to) := ⟨_, rfl⟩
  have hyn : NIn k y1 := by rw [hy1]; exact hx.setPeer to (by dsimp only; omega)
  have hyv : NOk R v y1 := by rw [hy1]; exact hv.to (Hp.le_refl _) ⟨rfl, rfl, rfl⟩
  have hyl : y1.peers.length = x.peers.length := by rw [hy1]; exact List.length_set
  have hft := feed_t (R := R) b v y1 k (by omega) hyn hyv to (by omega)
  rw [← hfto] at hft
  refine rj_turn (A := slc 116 2 v.vp x.peers.length (pairsV (x.setPeer to (max (min (x.nxt to - 1) (m.index + 1)) (x.mat to + 1), x.mat to)).peers)) (B := prA v y1) fd_ (fun h hh => by show slc _ _ _ y1.peers.length _ h; rw [hyl, hy1]; exact hh) ?_
  refine rj_turn (A := ndB b v x) (B := ndB b v y1) fd_ (fun h hh => by rw [hy1]; exact hh) ?_
  refine rj_turn (A := lgN b v x) (B := lgN b v y1) fd_ (fun h hh => by rw [hy1]; exact hh) ?_
  refine rj_turn (A := outA v x) (B := outA v y1) fd_ (fun h hh => by rw [hy1]; exact hh) ?_
  refine rj_turn (A := mpA v.vm x.votes) (B := mpA v.vm y1.votes) fd_ (fun h hh => by rw [hy1]; exact hh) ?_
  refine Ra Tryz.call35 (hft) ?_
  rintro r R2 L' hR2 ⟨vo, css, hels, hvo2, rfl⟩
  try simp only [cA, nA]
  refine rj_nil (hK10 _ _ _ ?_)
  refine cj_env eN ?_
  refine cj_ret (hret _ _ _ ?_)
  refine Ea Tryz.results44 .nil (ndL b (v.sent vo css) (y1.feed to) D) (by first | exact Hp.le_refl _ | assumption) ?_
  rw [hN, ← hy1]; exact ⟨rfl, _, hyv.sent (y := y1.feed to) hR2 ⟨rfl, rfl⟩ hels hvo2, by rw [hy1]⟩
  have f3 : ¬ m.ok = false := by simpa using hc29
  rw [if_neg f3] at hN
  refine cj_skip (hK6 _ _ _ (cj_seq fun K11 hK11 => ?_))
  refine cj_mixg (L := [blk b3 (msgC m ve) 48, prA v x, ndB b v x, lgN b v x]) [0, 1, 2, 3, 4, 5, 6, 7, 8, 9, 10, 11, 12, 13, 14, 15] [] [16] _ sb_ (by kernel_rfl) (by kernel_rfl) (by kernel_rfl) rfl ?_
  refine Wa rfl (fun R1 hR1 G => (y_move rfl)) ?_
  refine Wa rfl (fun R1 hR1 G => (y_move rfl)) ?_
  refine Wa rfl (fun R1 hR1 G => (y_nilCheck rfl)) ?_
  refine Wa rfl (fun R1 hR1 G => (Ga Tryz.underlying116 Tryz.sizeOf31)) ?_
  refine Wa rfl (fun R1 hR1 G => (y_load_slc (v := v.vp) o31 (by rw [hvp, cellV_mk, ← Nat.add_assoc]; rfl) fd_ hn1)) ?_
  refine Wa rfl (fun R1 hR1 G => (Ga Tryz.underlying48 Tryz.sizeOf31)) ?_
  first | refine Wa rfl (fun R1 hR1 G => (La o31)) ?_ | refine Wa rfl (fun R1 hR1 G => (Ls o31)) ?_
  refine Wa rfl (fun R1 hR1 G => (y_move rfl)) ?_
  refine Wa rfl (fun R1 hR1 G => (y_nilCheck rfl)) ?_
  refine Wa rfl (fun R1 hR1 G => (Ga Tryz.underlying81 Tryz.sizeOf44)) ?_
  first | refine Wa rfl (fun R1 hR1 G => (La o44)) ?_ | refine Wa rfl (fun R1 hR1 G => (Ls o44)) ?_
  refine Wa rfl (fun R1 hR1 G => (Ca Tryz.call19 (lgLast_q b.l (some ⟨b.d, 0, none⟩) v.va x.g hg (hv.va.mono hR1)))) ?_
  refine Wa rfl (fun R1 hR1 G => (y_min rfl rfl)) ?_
  refine Wa rfl (fun R1 hR1 G => (y_max rfl rfl)) ?_
  refine Wa rfl (fun R1 hR1 G => (y_nilCheck rfl)) ?_
  refine Wa rfl (fun R1 hR1 G => (Ga Tryz.underlying116 Tryz.sizeOf31)) ?_
  refine fj_nil ?_
  refine xj_nil ?_
  try simp only [cA, nA, List.append_nil]
  refine rj_store_slc (v := v.vp) (ys := pairsV (x.setPeer to (x.nxt to, k1)).peers) o31 (wn0 rfl) (j := m.frm.toNat * 2 + 1) (by rw [hvp, cellV_mk, ← Nat.add_assoc]; rfl) rfl rfl fd_ (by rw [pairs_len]; omega) (by rw [(pair_set x.peers to m.frm _ hfto htl).2, ← hk1]; rfl) (by omega) ?_
  refine rj_nil (hK11 _ _ _ ?_)
  refine cj_env (eL 0 rfl (eL 3 rfl (eL 4 rfl eN))) ?_
  refine cj_seq fun K12 hK12 => cj_region ?_
  refine Pm ?_
  refine Pm ?_
  refine Pa (y_nilCheck rfl) ?_
  refine Pa (Ga Tryz.underlying116 Tryz.sizeOf31) ?_
  refine Pa ((y_load_slc (v := v.vp) o31 (by rw [hvp, cellV_mk, ← Nat.add_assoc]; rfl) fd_ (show nth (pairsV (x.setPeer to (x.nxt to, k1)).peers) (m.frm.toNat * 2 + 1) = some (.int .u64 k1) by have h := (pair_nth (x.setPeer to (x.nxt to, k1)).peers to m.frm hfto (by show to < (x.peers.set to _).length; rw [List.length_set]; exact htl)).2; rw [show ((x.setPeer to (x.nxt to, k1)).peers.getD to (0, 0)) = (x.nxt to, k1) from set_getDp htl _] at h; exact h))) ?_
  refine Pa ((y_addu rfl rfl (by omega))) ?_
  refine Pa (y_nilCheck rfl) ?_
  refine Pa (Ga Tryz.underlying116 Tryz.sizeOf31) ?_
  refine rj_store_slc (v := v.vp) (ys := pairsV (x.setPeer to (k1 + 1, k1)).peers) o31 (wn0 rfl) (j := m.frm.toNat * 2 + 0) (by rw [hvp, cellV_mk, ← Nat.add_assoc]; rfl) rfl rfl fd_ (by rw [pairs_len]; show _ < (x.peers.set to _).length * 2; rw [List.length_set]; omega) (by rw [(pair_set (x.setPeer to (x.nxt to, k1)).peers to m.frm _ hfto (by show to < (x.peers.set to _).length; rw [List.length_set]; exact htl)).1]; show pairsV ((x.peers.set to _).set to (_, ((x.peers.set to _).getD to (0, 0)).2)) = _; rw [set_getDp htl, List.set_set]; rfl) (by omega) ?_
  refine rj_nil (hK12 _ _ _ (cj_seq fun K13 hK13 => cj_region ?_))
  refine Pm ?_
  obtain ⟨y2, hy2⟩ : ∃ y, y = x.setPeer to (k1 + 1, k1) := ⟨_, rfl⟩
  have hyn : NIn k y2 := by rw [hy2]; exact hx.setPeer to (by dsimp only; omega)
  have hyl : y2.peers.length = x.peers.length := by rw [hy2]; exact List.length_set
  refine rj_turn (A := slc 116 2 v.vp x.peers.length (pairsV (x.setPeer to (k1 + 1, k1)).peers)) (B := prA v y2) fd_ (fun h hh => by show slc _ _ _ y2.peers.length _ h; rw [hyl, hy2]; exact hh) ?_
  refine rj_turn (A := ndB b v x) (B := ndB b v y2) fd_ (fun h hh => by rw [hy2]; exact hh) ?_
  refine rj_turn (A := lgN b v x) (B := lgN b v y2) fd_ (fun h hh => by rw [hy2]; exact hh) ?_
  refine rj_turn (A := outA v x) (B := outA v y2) fd_ (fun h hh => by rw [hy2]; exact hh) ?_
  refine rj_turn (A := mpA v.vm x.votes) (B := mpA v.vm y2.votes) fd_ (fun h hh => by rw [hy2]; exact hh) ?_
  refine Ra Tryz.call71 (count_t b v y2 k (by omega) hyn (by rw [hy2]; exact hv.va) hv.vp (by rw [hyl, hy2]; exact hpl)) ?_
  rintro r R5 L' hR5 rfl
  have hyc := NIn.count (by omega) hyn
  rw [← hy2] at hN
  obtain ⟨c, hc⟩ := count_eq y2
  rw [hc] at hN hyc ⊢
  have hyv : NOk R5 v { y2 with commit := c } := by rw [hy2]; exact hv.to hR5 ⟨rfl, rfl, rfl⟩
  have hgy := hyc.g (by omega)
  have hn2 : nth (pairsV y2.peers) (m.frm.toNat * 2 + 0) = some (.int .u64 (k1 + 1)) := by have h := (pair_nth y2.peers to m.frm hfto (by omega)).1; rw [show (y2.peers.getD to (0, 0)) = (k1 + 1, k1) by rw [hy2]; exact set_getDp htl _] at h; exact h
  try simp only [cA, nA]
  refine rj_nil (hK13 _ _ _ (cj_seq fun K14 hK14 => ?_))
  refine cj_draw (by kernel_rfl) (by kernel_rfl) ?_
  refine Qa (y_move rfl) ?_
  refine Qa (y_nilCheck rfl) ?_
  refine Qa (Ga Tryz.underlying116 Tryz.sizeOf31) ?_
  refine Qa ((y_load_slc (v := v.vp) o31 (by rw [hvp, cellV_mk, ← Nat.add_assoc]; rfl) fd_ hn2)) ?_
  refine Qa (y_move rfl) ?_
  refine Qa (y_nilCheck rfl) ?_
  refine Qa (Ga Tryz.underlying81 Tryz.sizeOf44) ?_
  first | refine Qa (La o44) ?_ | refine Qa (Ls o44) ?_
  refine Qa (Ca Tryz.call19 (lgLast_q b.l (some ⟨b.d, 0, none⟩) v.va y2.g hgy hyv.va)) ?_
  refine Qa (y_leq rfl rfl) ?_
  refine qj_nil ?_
  refine hK14 _ _ _ ?_
  refine cj_env (eL 0 rfl (eL 3 rfl (eL 87 rfl eN))) ?_
  refine cj_cond rfl (fun hc87 => ?_) (fun hc87 => ?_)
  have f4 : k1 + 1 ≤ y2.g.last := by simpa using hc87
  rw [if_pos f4] at hN
  have hft := feed_t (R := R5) b v { y2 with commit := c } k (by omega) hyc hyv to (by show to < y2.peers.length; omega)
  rw [← hfto] at hft
  refine cj_region ?_
  refine Pm ?_
  refine Pa (Ga Tryz.underlying48 Tryz.sizeOf3) ?_
  first | refine Pa (La o3) ?_ | refine Pa (Ls o3) ?_
  refine Ra Tryz.call35 (hft) ?_
  rintro r R6 L' hR6 ⟨vo, css, hels, hvo2, rfl⟩
  have hR56 := Hp.le_trans hR5 hR6
  try simp only [cA, nA]
  refine rj_nil (hend _ _ _ ?_)
  apply ej_end Tryz.results44 .nil _ (ndL b (v.sent vo css) (ND.feed { y2 with commit := c } to) D) (by first | exact Hp.le_refl _ | assumption) rfl
  case hp => rw [hN]; exact ⟨rfl, _, hyv.sent (y := ND.feed { y2 with commit := c } to) hR6 ⟨rfl, rfl⟩ hels hvo2, rfl⟩
  case hS => exact sb_
  have f4 : ¬ k1 + 1 ≤ y2.g.last := by simpa using hc87
  rw [if_neg f4] at hN
  refine cj_skip (hend _ _ _ ?_)
  apply ej_end Tryz.results44 .nil _ (ndL b v { y2 with commit := c } D) (by first | exact Hp.le_refl _ | assumption) rfl
  case hp => rw [hN]; exact ⟨rfl, _, hyv, rfl⟩
  case hS => exact sb_
end V
end Go.Proofs.YtjdbigplednihaaGreat
set_option linter.unusedSimpArgs false
set_option linter.unusedVariables false
set_option maxRecDepth 100000
namespace Go.Proofs.YtjdbigplednihaaGreat
open Go.RowKit
namespace V
set_option maxHeartbeats 4000000
theorem fits_yes {g : LG} {e : Ent} {l : List Ent} {i : Int} (h : (g.at i).map (·.1) = some e.1) : ND.fits g (e :: l) i = ND.fits g l (i + 1) := by show (if _ then _ else _) = _; rw [if_pos h]
theorem fits_no {g : LG} {e : Ent} {l : List Ent} {i : Int} (h : ¬ (g.at i).map (·.1) = some e.1) : ND.fits g (e :: l) i = some (i, e :: l) := by show (if _ then _ else _) = _; rw [if_neg h]
theorem NIn.commits {k : Nat} {x : ND} (h : NIn k x) (m : Msg) (hm : 0 ≤ m.commit) {last : Int} (hl : 0 ≤ last ∧ last ≤ 150000000000000) : NIn k (x.commits m last) :=
  ⟨h.idn, h.term, h.vote, h.base, h.baseT, h.state, h.alln, h.all, by have := h.commit; show 0 ≤ max x.commit (min m.commit last) ∧ max x.commit (min m.commit last) ≤ _; omega, h.patience, h.peers, h.peer, h.votes, h.out⟩
theorem cutM_b {k : Nat} {x : ND} {m : Msg} (hx : NIn k x) (hm : MIn k x.n m) : (0 ≤ (x.cutM m).1 ∧ (x.cutM m).1 ≤ 100000000000000) ∧ (x.cutM m).2.length ≤ 20 ∧ ∀ e ∈ (x.cutM m).2, (0 ≤ e.1 ∧ e.1 ≤ 2305843009213693952 + k) ∧ e.2.length ≤ 100 := by
  have h1 := hx.base
  have h2 := hm.index
  have h3 := hm.es
  unfold ND.cutM
  split
  · exact ⟨h1, by simp; omega, fun e he => h3.2 e (List.mem_of_mem_drop he)⟩
  · exact ⟨h2, h3⟩
theorem termAt_some {g : LG} {i t : Int} : ¬ g.termAt i = some t ↔ (g.termAt i).isSome = false ∨ ¬ (g.termAt i).getD 0 = t := by
  cases g.termAt i <;> simp
theorem ents_small {l : List Ent} (h : l.length ≤ 20) (hb : ∀ e ∈ l, e.2.length ≤ 100) : entsLen l ≤ 16000000 := by
  have : ∀ (l : List Ent), (∀ e ∈ l, e.2.length ≤ 100) → entsLen l ≤ 120 * l.length := by
    intro l
    induction l with
    | nil => intro _; simp [entsLen]
    | cons e l ih =>
      intro h
      have h1 := ih (fun x hx => h x (by simp [hx]))
      have h2 := h e (by simp)
      simp [entsLen] at h1 ⊢; omega
  have := this l hb
  omega
def restN (x : ND) (D : DK) (m : Msg) (c : Int × List Ent) : Bool × NS := match ND.fits x.g c.2 (c.1 + 1) with
  | none => (true, ((x.commits m (c.1 + c.2.length)).answer m true (c.1 + c.2.length), D))
  | some (i, l) => if i ≤ x.commit then (true, (x, D)) else bindN (mustN (x, D) (x.g.addD D (i - 1) l)) fun s => (true, ((s.1.commits m (c.1 + c.2.length)).answer m true (c.1 + c.2.length), s.2))
theorem addN_eq {x : ND} {D : DK} {m : Msg} (h1 : ¬ (m.index < x.g.base ∧ (m.es.length : Int) < x.g.base - m.index)) (h2 : ¬ (¬ m.index < x.g.base ∧ ¬ x.g.termAt m.index = some m.logTerm)) :
    addN (x, D) m = restN x D m (x.cutM m) := by
  unfold addN
  rw [if_neg h1, if_neg h2]
  rfl
theorem restN_none {x : ND} {D : DK} {m : Msg} {bh : Int} {l : List Ent} (h : ND.fits x.g l (bh + 1) = none) : restN x D m (bh, l) = (true, ((x.commits m (bh + l.length)).answer m true (bh + l.length), D)) := by
  unfold restN; simp only [h]
theorem restN_some {x : ND} {D : DK} {m : Msg} {bh i : Int} {l l2 : List Ent} (h : ND.fits x.g l (bh + 1) = some (i, l2)) : restN x D m (bh, l) = if i ≤ x.commit then (true, (x, D)) else bindN (mustN (x, D) (x.g.addD D (i - 1) l2)) fun s => (true, ((s.1.commits m (bh + l.length)).answer m true (bh + l.length), s.2)) := by
  unfold restN; simp only [h]
theorem drop_cons {α : Type} {l : List α} {i : Nat} {e : α} (h : l[i]? = some e) : l.drop i = e :: l.drop (i + 1) := by
  have hi := (List.getElem?_eq_some_iff.1 h).1
  rw [List.drop_eq_getElem_cons hi]
  rw [List.getElem?_eq_getElem hi] at h
  cases h; rfl
theorem add_t {R : Hp} (b : NB) (v : NV) (x : ND) (D : DK) (m : Msg) (ve : Value) (k n : Nat) (hk : k ≤ 50) (hx : NIn k x) (hv : NOk R v x) (hm : MIn k x.n m) (hve : FrX entE R m.es ve) (hD : D.ok n) (hn : n ≤ 800000000) :
    Tri Tryz.prog 69 [.pointer (some ⟨b.x, 0, none⟩), .agg ⟨msgC m ve⟩] R (ndL b v x D) (NRet b (addN (x, D) m)) (NPan b (addN (x, D) m)) := by
  have hidn := hx.idn
  have hveo := hve.one
  have hidx := hm.index
  have hbs := hx.base
  have hob := hx.out
  have hes := hm.es
  have hg := hx.g (by omega)
  have hlb := LG.last_b hg
  have hcm := hm.commit
  have hco := hx.commit
  obtain ⟨hc1, hc2, hc3⟩ := cutM_b hx hm
  obtain ⟨qe, ce, rfl, hqe1, hqe2⟩ := hve.shape
  have hva := hv.va
  have hterm := hx.term
  refine tri_of Tryz.func69 rfl Tryz.ntmps69 rfl (fun σ F Q hret hend hpan => ?_)
  try simp only [cA, nA]
  refine cj_seq fun K1 hK1 => ?_
  refine cj_region ?_
  refine rj_box (wn0 rfl) rfl rfl rfl (fun b3 => ?_)
  refine rj_nil ?_
  refine hK1 _ _ _ ?_
  refine cj_seq fun K2 hK2 => ?_
  refine cj_draw (by kernel_rfl) (by kernel_rfl) ?_
  refine Qa (Ga Tryz.underlying48 Tryz.sizeOf31) ?_
  first | refine Qa (La o31) ?_ | refine Qa (Ls o31) ?_
  refine Qa (Ga Tryz.underlying48 Tryz.sizeOf32) ?_
  first | refine Qa (La o32) ?_ | refine Qa (Ls o32) ?_
  refine Qa (y_assign rfl) ?_
  refine Qa (y_assign rfl) ?_
  refine qj_nil ?_
  refine hK2 _ _ _ ?_
  refine cj_seq fun K3 hK3 => ?_
  have hJ11 : ∀ (x1 : Int × List Ent × Value), (x1.1, x1.2.1) = x.cutM m ∧ FrX entE R x1.2.1 x1.2.2 ∧ addN (x, D) m = restN x D m (x1.1, x1.2.1) → EJ ⟨Tryz.prog, 150, σ⟩ K3 [(0, .pointer (some ⟨b.x, 0, none⟩)), (3, .pointer (some ⟨b3, 0, none⟩)), (4, .int .u64 x1.1), (5, x1.2.2)] R (blk b3 (msgC m (.slice qe m.es.length ce)) 48 :: ndB b v x :: lgN b v x :: dkB b.d v.u D :: dkS v.u D :: prA v x :: mpA v.vm x.votes :: outA v x :: F) := by
   rintro ⟨bh, l, vl⟩ ⟨hcut, hl, hnot⟩
   try dsimp only
   dsimp only at hcut hl hnot
   have hbh := hc1
   rw [← hcut] at hbh hc2 hc3
   dsimp only at hbh hc2 hc3
   obtain ⟨ql, cl, rfl, hql1, hql2⟩ := hl.shape
   refine hK3 _ _ _ ?_
   refine cj_seq fun K4 hK4 => ?_
   refine cj_region ?_
   refine Pm ?_
   refine Pm ?_
   first | refine Pa (y_len_sl Tryz.underlying32 rfl) ?_ | refine Pa (y_len_slc Tryz.underlying32 rfl fd_) ?_
   refine Pa ((y_conv_in Tryz.underlying3 Tryz.underlying31 rfl (by (simp only [IntKind.min, IntKind.max, IntKind.signed, IntKind.bits, Bool.false_eq_true, ite_false, ite_true]; omega)))) ?_
   refine Pa ((y_addu rfl rfl (by omega))) ?_
   refine Ps ?_
   refine rj_nil ?_
   refine hK4 _ _ _ ?_
   refine cj_seq fun K5 hK5 => ?_
   have hJ21 : ∀ (x2 : ND × NV × DK × Hp), NIn (k + 1) x2.1 ∧ NOk x2.2.2.2 x2.2.1 x2.1 ∧ R.le x2.2.2.2 ∧ addN (x, D) m = (true, ((x2.1.commits m (bh + l.length)).answer m true (bh + l.length), x2.2.2.1)) → EJ ⟨Tryz.prog, 150, σ⟩ K5 [(0, .pointer (some ⟨b.x, 0, none⟩)), (3, .pointer (some ⟨b3, 0, none⟩)), (12, .int .u64 (bh + (l.length : Int)))] x2.2.2.2 (blk b3 (msgC m (.slice qe m.es.length ce)) 48 :: ndB b x2.2.1 x2.1 :: lgN b x2.2.1 x2.1 :: dkB b.d x2.2.1.u x2.2.2.1 :: dkS x2.2.1.u x2.2.2.1 :: prA x2.2.1 x2.1 :: mpA x2.2.1.vm x2.1.votes :: outA x2.2.1 x2.1 :: F) := by
    rintro ⟨y, v2, D2, R2⟩ ⟨hy, hv2, hR2, hF⟩
    try dsimp only
    dsimp only at hy hv2 hR2 hF
    have hyo := hy.out
    have hyc := hy.commits m hcm.1 (last := bh + l.length) (by omega)
    refine hK5 _ _ _ ?_
    refine cj_seq fun K6 hK6 => ?_
    refine cj_mixg (L := [blk b3 (msgC m (.slice qe m.es.length ce)) 48, ndB b v2 y]) [0, 1, 2, 3, 4, 5, 6, 7, 8, 9, 10, 11] [] [12] _ sb_ (by kernel_rfl) (by kernel_rfl) (by kernel_rfl) rfl ?_
    refine Wa rfl (fun R1 hR1 G => (y_move rfl)) ?_
    refine Wa rfl (fun R1 hR1 G => (y_move rfl)) ?_
    refine Wa rfl (fun R1 hR1 G => (y_nilCheck rfl)) ?_
    refine Wa rfl (fun R1 hR1 G => (Ga Tryz.underlying81 Tryz.sizeOf31)) ?_
    first | refine Wa rfl (fun R1 hR1 G => (La o31)) ?_ | refine Wa rfl (fun R1 hR1 G => (Ls o31)) ?_
    refine Wa rfl (fun R1 hR1 G => (Ga Tryz.underlying48 Tryz.sizeOf31)) ?_
    first | refine Wa rfl (fun R1 hR1 G => (La o31)) ?_ | refine Wa rfl (fun R1 hR1 G => (Ls o31)) ?_
    refine Wa rfl (fun R1 hR1 G => (y_move rfl)) ?_
    refine Wa rfl (fun R1 hR1 G => (y_min rfl rfl)) ?_
    refine Wa rfl (fun R1 hR1 G => (y_max rfl rfl)) ?_
    refine Wa rfl (fun R1 hR1 G => (y_nilCheck rfl)) ?_
    refine Wa rfl (fun R1 hR1 G => (Ga Tryz.underlying81 Tryz.sizeOf31)) ?_
    refine fj_nil ?_
    refine xj_nil ?_
    try simp only [cA, nA, List.append_nil]
    refine Sa o31 ?_
    refine rj_nil ?_
    refine hK6 _ _ _ ?_
    refine cj_env (eL 0 rfl (eL 3 rfl (eL 12 rfl eN))) ?_
    refine cj_region ?_
    refine Pm ?_
    first | refine Pa (Lb m48) ?_ | refine Pa (y_loads_slc m48 rfl fd_ rfl rfl om_) ?_
    refine Pm ?_
    refine Ra Tryz.call68 (answer_t b v2 (y.commits m (bh + l.length)) m (.slice qe m.es.length ce) true (bh + l.length) hv2.out hv2.vo (by show y.out.length ≤ _; omega) hveo) ?_
    rintro r R6 L' hR6 ⟨vo, css, hels, hvo2, rfl⟩
    have hR26 := Hp.le_trans hR2 hR6
    try simp only [cA, nA]
    refine rj_nil ?_
    refine hend _ _ _ ?_
    apply ej_end Tryz.results69 .nil _ (ndL b (v2.sent vo css) ((y.commits m (bh + l.length)).answer m true (bh + l.length)) D2) (by first | exact Hp.le_refl _ | assumption) rfl
    case hp => rw [hF]; exact ⟨rfl, _, hv2.sent (y := (y.commits m (bh + l.length)).answer m true (bh + l.length)) hR6 ⟨rfl, rfl⟩ hels hvo2, rfl⟩
    case hS => exact sb_
   refine cj_seq fun K7 hK7 => ?_
   refine cj_region ?_
   refine Pm ?_
   first | refine Pa (y_len_sl Tryz.underlying32 rfl) ?_ | refine Pa (y_len_slc Tryz.underlying32 rfl fd_) ?_
   refine Pm ?_
   refine rj_nil ?_
   refine hK7 _ _ _ ?_
   refine cj_block ?_
   refine cj_env (E' := (fun (x3 : Nat) => [(0, .pointer (some ⟨b.x, 0, none⟩)), (3, .pointer (some ⟨b3, 0, none⟩)), (4, .int .u64 bh), (5, .slice ql l.length cl), (12, .int .u64 (bh + (l.length : Int))), (86, .slice ql l.length cl), (87, .int .i64 (l.length : Int)), (88, .int .i64 (x3 : Int))]) 0) (eC rfl (eC rfl (eC rfl (eC rfl (eC rfl (eC rfl (eC rfl (eC rfl eN)))))))) ?_
   refine cj_sub (M := (fun (x3 : Nat) => blk b3 (msgC m (.slice qe m.es.length ce)) 48 :: ndB b v x :: lgN b v x :: dkB b.d v.u D :: dkS v.u D :: prA v x :: mpA v.vm x.votes :: outA v x :: F) 0) sb_ ?_
   refine cj_loop (fun (x3 : Nat) => [(0, .pointer (some ⟨b.x, 0, none⟩)), (3, .pointer (some ⟨b3, 0, none⟩)), (4, .int .u64 bh), (5, .slice ql l.length cl), (12, .int .u64 (bh + (l.length : Int))), (86, .slice ql l.length cl), (87, .int .i64 (l.length : Int)), (88, .int .i64 (x3 : Int))]) (fun (x3 : Nat) => R) (fun (x3 : Nat) => blk b3 (msgC m (.slice qe m.es.length ce)) 48 :: ndB b v x :: lgN b v x :: dkB b.d v.u D :: dkS v.u D :: prA v x :: mpA v.vm x.votes :: outA v x :: F) (fun (x3 : Nat) => x3 ≤ l.length ∧ ND.fits x.g l (bh + 1) = ND.fits x.g (l.drop x3) (bh + 1 + x3)) (fun (x3 : Nat) => l.length - x3) 0 (⟨by simp, by simp⟩) ?_
   rintro i ⟨hi, hfk⟩
   try dsimp only
   refine cj_seq fun K8 hK8 => ?_
   refine cj_region ?_
   refine Pa (y_lss rfl rfl) ?_
   refine rj_nil ?_
   refine hK8 _ _ _ ?_
   refine cj_seq fun K9 hK9 => ?_
   refine cj_cond rfl (fun hc89 => ?_) (fun hc89 => ?_)
   ·try simp only [dT, dF, nT, nF, tF, fT] at hc89
    refine cj_skip ?_
    refine hK9 _ _ _ ?_
    refine cj_seq fun K11 hK11 => ?_
    refine cj_block ?_
    refine cj_seq fun K12 hK12 => ?_
    refine cj_region ?_
    have hin : i < l.length := by (try simp at hc89); omega
    obtain ⟨e, he⟩ : ∃ e, l[i]? = some e := ⟨_, List.getElem?_eq_getElem hin⟩
    obtain ⟨be, oe, ce', cse, hee, rfl, _, hcell⟩ := hl.at he
    obtain ⟨rfl, rfl⟩ : ql = some ⟨be, oe, none⟩ ∧ cl = ce' := by cases hee; exact ⟨rfl, rfl⟩
    have hat := lgAt_q (R := R) b.l (some ⟨b.d, 0, none⟩) v.va x.g hg hva (bh + 1 + i) (by unfold u64B; omega)
    obtain ⟨eo, ok, hev, hok1, hok2⟩ := entV_cases (x.g.at (bh + 1 + i))
    have heb := hc3 e (List.mem_of_getElem? he)
    refine Pm ?_
    first | refine Pa (y_indexAddr Tryz.underlying32 Tryz.sizeOf60 rfl rfl om_) ?_ | refine Pa (y_index_slc Tryz.underlying32 Tryz.sizeOf60 rfl rfl fd_ om_) ?_
    refine Pa ((y_loads_ro m60 (vs := entC e) rfl rfl (fun j u hj => hcell j u hj))) ?_
    refine rj_alloc (wn0 rfl) rfl Tryz.zeroValue60 rfl (fun b14 => ?_)
    refine Ps ?_
    refine Sm (vs := entC e) m60 (entE.one (R := R) (x := e) rfl) ?_
    refine rj_nil ?_
    refine hK12 _ _ _ ?_
    refine cj_seq fun K13 hK13 => ?_
    refine cj_region ?_
    refine Pm ?_
    refine Pa ((y_addu rfl rfl (by omega))) ?_
    refine Pm ?_
    refine Pa ((y_conv_in Tryz.underlying3 Tryz.underlying31 rfl (by (simp only [IntKind.min, IntKind.max, IntKind.signed, IntKind.bits, Bool.false_eq_true, ite_false, ite_true]; omega)))) ?_
    refine Pa ((y_addu rfl rfl (by omega))) ?_
    refine Ps ?_
    refine rj_nil ?_
    refine hK13 _ _ _ ?_
    refine cj_seq fun K14 hK14 => ?_
    refine cj_seq fun K15 hK15 => ?_
    refine cj_region ?_
    refine Pm ?_
    refine Pa (y_nilCheck rfl) ?_
    refine Pa (Ga Tryz.underlying81 Tryz.sizeOf44) ?_
    first | refine Pa (La o44) ?_ | refine Pa (Ls o44) ?_
    refine Pm ?_
    refine Pa (Ca Tryz.call20 (hat)) ?_
    refine rj_eq 104 rfl (v' := tupOf [.agg ⟨entC eo⟩, .bool ok]) hev ?_
    refine Pm ?_
    refine Pa (y_extract rfl rfl) ?_
    refine Pa (y_extract rfl rfl) ?_
    refine rj_alloc (wn0 rfl) rfl Tryz.zeroValue60 rfl (fun b16 => ?_)
    refine Sm (vs := entC eo) m60 (entE.one (R := R) (x := eo) rfl) ?_
    refine Ps ?_
    refine rj_nil ?_
    refine hK15 _ _ _ ?_
    refine cj_env (eL 0 rfl (eL 3 rfl (eL 4 rfl (eL 5 rfl (eL 12 rfl (eL 13 rfl (eL 14 rfl (eL 15 rfl (eL 16 rfl (eL 17 rfl (eL 86 rfl (eL 87 rfl (eL 88 rfl eN))))))))))))) ?_
    refine cj_seq fun K16 hK16 => ?_
    refine cj_region ?_
    refine Pm ?_
    refine Pm ?_
    refine rj_part 108 rfl (fun hg108 => ?_) (fun hg108 => ?_)
    ·have g1 := hok1 (by simpa using hg108)
     refine Pb (Ga Tryz.underlying60 Tryz.sizeOf31) ?_
     first | refine Pb (La o31) ?_ | refine Pb (Ls o31) ?_
     refine Pb (Ga Tryz.underlying60 Tryz.sizeOf31) ?_
     first | refine Pb (La o31) ?_ | refine Pb (Ls o31) ?_
     refine Pb (y_eql rfl rfl) ?_
     refine Pa (y_pick_t rfl rfl) ?_
     refine rj_nil ?_
     refine hK16 _ _ _ ?_
     refine cj_cond rfl (fun hc114 => ?_) (fun hc114 => ?_)
     ·first|(have hyes : (x.g.at (bh + 1 + i)).map (·.1) = some e.1 := by rw [g1]; simpa using hc114)|skip
      refine cj_exit ?_
      refine hK11 _ _ _ ?_
      refine cj_region ?_
      first | refine Pa (y_add64 rfl rfl om_) ?_ | refine Pa (y_add rfl rfl) ?_
      refine Pm ?_
      refine rj_nil ?_
      refine ej_on (q' := roundK _ _ _ _ _ _ _) rfl ?_
      refine ej_round (i + 1) (⟨by omega, by rw [hfk, drop_cons he, fits_yes hyes]; congr 1; omega⟩) (by omega) (eC rfl (eC rfl (eC rfl (eC rfl (eC rfl (eC rfl (eC rfl (eC rfl eN)))))))) rfl sb_
     ·first|(have hno : ¬ (x.g.at (bh + 1 + i)).map (·.1) = some e.1 := by rw [g1]; simpa using hc114)|skip
      refine cj_skip ?_
      refine hK14 _ _ _ ?_
      refine cj_seq fun K18 hK18 => ?_
      refine cj_seq fun K19 hK19 => ?_
      have hfs : addN (x, D) m = if bh + 1 + i ≤ x.commit then (true, (x, D)) else bindN (mustN (x, D) (x.g.addD D (bh + 1 + i - 1) (l.drop i))) fun s => (true, ((s.1.commits m (bh + l.length)).answer m true (bh + l.length), s.2)) := by rw [hnot, restN_some (by rw [hfk, drop_cons he, fits_no hno])]; rw [drop_cons he]
      refine cj_region ?_
      refine Pm ?_
      refine Pm ?_
      refine Pa (y_nilCheck rfl) ?_
      refine Pa (Ga Tryz.underlying81 Tryz.sizeOf31) ?_
      first | refine Pa (La o31) ?_ | refine Pa (Ls o31) ?_
      refine Pa (y_leq rfl rfl) ?_
      refine rj_nil ?_
      refine hK19 _ _ _ ?_
      refine cj_cond rfl (fun hc120 => ?_) (fun hc120 => ?_)
      ·have g2 : bh + 1 + i ≤ x.commit := by simpa using hc120
       rw [if_pos g2] at hfs
       refine cj_ret ?_
       refine hret _ _ _ ?_
       refine Ea Tryz.results69 .nil (ndL b v x D) (by first | exact Hp.le_refl _ | assumption) ?_
       rw [hfs]; exact ⟨rfl, v, hv, rfl⟩
      ·have g2 : ¬ bh + 1 + i ≤ x.commit := by simpa using hc120
       rw [if_neg g2] at hfs
       obtain ⟨ra, hra⟩ : ∃ r, r = x.g.addD D (bh + 1 + i - 1) (l.drop i) := ⟨_, rfl⟩
       rw [← hra] at hfs
       have hAs := hfs
       have hsd := hl.sub (a := i) (b := l.length) (by omega) (by omega)
       rw [List.take_of_length_le (by simp)] at hsd
       have hdl : (l.drop i).length ≤ 20 := by simp; omega
       have hdb : ∀ e ∈ l.drop i, (0 ≤ e.1 ∧ e.1 ≤ 2305843009213693952 + k) ∧ e.2.length ≤ 100 := fun e he => hc3 e (List.mem_of_mem_drop he)
       have hdE : entsLen (l.drop i) ≤ 16000000 := ents_small hdl (fun e he => (hdb e he).2)
       refine cj_skip ?_
       refine hK18 _ _ _ ?_
       refine cj_seq fun K21 hK21 => ?_
       refine cj_mixg (L := [ndB b v x]) [0, 1, 2, 3, 4, 5, 6, 7, 8, 9] [10] [11] _ sb_ (by kernel_rfl) (by kernel_rfl) (by kernel_rfl) rfl ?_
       refine Wa rfl (fun R1 hR1 G => (y_move rfl)) ?_
       refine Wa rfl (fun R1 hR1 G => (y_move rfl)) ?_
       refine Wa rfl (fun R1 hR1 G => (y_nilCheck rfl)) ?_
       refine Wa rfl (fun R1 hR1 G => (Ga Tryz.underlying81 Tryz.sizeOf44)) ?_
       first | refine Wa rfl (fun R1 hR1 G => (La o44)) ?_ | refine Wa rfl (fun R1 hR1 G => (Ls o44)) ?_
       refine Wa rfl (fun R1 hR1 G => (y_move rfl)) ?_
       refine Wa rfl (fun R1 hR1 G => (y_subu rfl rfl (by omega))) ?_
       refine Wa rfl (fun R1 hR1 G => (y_move rfl)) ?_
       refine Wa rfl (fun R1 hR1 G => (y_move rfl)) ?_
       refine Wa rfl (fun R1 hR1 G => (y_slice_sl (l := i) (h := l.length) Tryz.underlying32 Tryz.sizeOf60 rfl ⟨.i64, rfl⟩ rfl (by omega))) ?_
       refine fj_nil ?_
       refine xj_rj rfl ?_
       try simp only [cA, nA, List.append_nil]
       refine Ra Tryz.call89 (lgAdd_t b.l b.d v.va v.u _ x.g D n (bh + 1 + i - 1) (l.drop i) hg (by unfold u64B; omega) hva hsd (by omega) (fun e he => ⟨by have := (hdb e he).1; unfold u64B; omega, by have := (hdb e he).2; omega⟩) hdE hD (by omega)) ?_
       rintro r R4 L' hR4 ⟨rfl, u2, va2, hva2, rfl⟩
       rw [← hra] at hva2 ⊢
       try simp only [cA, nA]
       refine rj_xk le_ sb_ ?_
       refine xj_nil ?_
       try simp only [cA, nA, List.append_nil]
       refine rj_call (wn0 rfl) rfl Tryz.call39 rfl (must_t b (v.logd u2 va2) x _) sp_ (fun ch Rp Lp hRp hpp => ?_) ?_
       · obtain ⟨he1, rfl, rfl⟩ := hpp
         try simp only [cA, nA]
         refine hpan _ _ _ _ ?_
         refine ej_pan _ (ndL b (v.logd u2 va2) { x with g := ra.2.1, down := true } ra.2.2) (by first | exact Hp.le_refl _ | assumption | exact Hp.le_trans ‹_› ‹_› | exact Hp.le_trans hR4 hRp) rfl sb_ ?_
         exact ⟨by rw [hAs]; simp [bindN, mustN, he1], rfl, v.logd u2 va2, by rw [hAs]; simp only [bindN, mustN, if_neg he1]; exact hv.logd (y := { x with g := ra.2.1, down := true }) (Hp.le_trans hR4 hRp) ⟨rfl, rfl⟩ (hva2.mono hRp), by rw [hAs]; simp [bindN, mustN, he1]⟩
       rintro r R5 L' hR5 ⟨he0, rfl⟩
       have hx1 : NIn (k + 1) { x with g := ra.2.1 } := by rw [hra, addD_ok (by rw [← hra]; exact he0)]; exact hx.add hdb hdl
       have hR35 := Hp.le_trans hR4 hR5
       have hv1 : NOk R5 (v.logd u2 va2) { x with g := ra.2.1 } := hv.logd (y := { x with g := ra.2.1 }) hR35 ⟨rfl, rfl⟩ (hva2.mono hR5)
       try simp only [cA, nA]
       refine rj_nil ?_
       refine hK21 _ _ _ ?_
       refine cj_env (eL 0 rfl (eL 3 rfl (eL 12 rfl eN))) ?_
       refine cj_exit ?_
       refine ej_join hJ21 (({ x with g := ra.2.1 }, v.logd u2 va2, ra.2.2, R5)) (⟨hx1, hv1, hR35, by rw [hAs]; simp [bindN, mustN, he0]⟩) (eC rfl (eC rfl (eC rfl eN))) rfl sb_
    ·have g1 := hok2 (by simpa using hg108)
     have hno : ¬ (x.g.at (bh + 1 + i)).map (·.1) = some e.1 := by rw [g1]; simp
     refine Pk ?_
     refine Pk ?_
     refine Pk ?_
     refine Pk ?_
     refine Pk ?_
     refine Pa (y_pick_f rfl rfl) ?_
     refine rj_nil ?_
     refine hK16 _ _ _ ?_
     refine cj_cond_f rfl ?_
     refine cj_skip ?_
     refine hK14 _ _ _ ?_
     refine cj_seq fun K22 hK22 => ?_
     refine cj_seq fun K23 hK23 => ?_
     have hfs : addN (x, D) m = if bh + 1 + i ≤ x.commit then (true, (x, D)) else bindN (mustN (x, D) (x.g.addD D (bh + 1 + i - 1) (l.drop i))) fun s => (true, ((s.1.commits m (bh + l.length)).answer m true (bh + l.length), s.2)) := by rw [hnot, restN_some (by rw [hfk, drop_cons he, fits_no hno])]; rw [drop_cons he]
     refine cj_region ?_
     refine Pm ?_
     refine Pm ?_
     refine Pa (y_nilCheck rfl) ?_
     refine Pa (Ga Tryz.underlying81 Tryz.sizeOf31) ?_
     first | refine Pa (La o31) ?_ | refine Pa (Ls o31) ?_
     refine Pa (y_leq rfl rfl) ?_
     refine rj_nil ?_
     refine hK23 _ _ _ ?_
     refine cj_cond rfl (fun hc120 => ?_) (fun hc120 => ?_)
     ·have g2 : bh + 1 + i ≤ x.commit := by simpa using hc120
      rw [if_pos g2] at hfs
      refine cj_ret ?_
      refine hret _ _ _ ?_
      refine Ea Tryz.results69 .nil (ndL b v x D) (by first | exact Hp.le_refl _ | assumption) ?_
      rw [hfs]; exact ⟨rfl, v, hv, rfl⟩
     ·have g2 : ¬ bh + 1 + i ≤ x.commit := by simpa using hc120
      rw [if_neg g2] at hfs
      obtain ⟨ra, hra⟩ : ∃ r, r = x.g.addD D (bh + 1 + i - 1) (l.drop i) := ⟨_, rfl⟩
      rw [← hra] at hfs
      have hAs := hfs
      have hsd := hl.sub (a := i) (b := l.length) (by omega) (by omega)
      rw [List.take_of_length_le (by simp)] at hsd
      have hdl : (l.drop i).length ≤ 20 := by simp; omega
      have hdb : ∀ e ∈ l.drop i, (0 ≤ e.1 ∧ e.1 ≤ 2305843009213693952 + k) ∧ e.2.length ≤ 100 := fun e he => hc3 e (List.mem_of_mem_drop he)
      have hdE : entsLen (l.drop i) ≤ 16000000 := ents_small hdl (fun e he => (hdb e he).2)
      refine cj_skip ?_
      refine hK22 _ _ _ ?_
      refine cj_seq fun K25 hK25 => ?_
      refine cj_mixg (L := [ndB b v x]) [0, 1, 2, 3, 4, 5, 6, 7, 8, 9] [10] [11] _ sb_ (by kernel_rfl) (by kernel_rfl) (by kernel_rfl) rfl ?_
      refine Wa rfl (fun R1 hR1 G => (y_move rfl)) ?_
      refine Wa rfl (fun R1 hR1 G => (y_move rfl)) ?_
      refine Wa rfl (fun R1 hR1 G => (y_nilCheck rfl)) ?_
      refine Wa rfl (fun R1 hR1 G => (Ga Tryz.underlying81 Tryz.sizeOf44)) ?_
      first | refine Wa rfl (fun R1 hR1 G => (La o44)) ?_ | refine Wa rfl (fun R1 hR1 G => (Ls o44)) ?_
      refine Wa rfl (fun R1 hR1 G => (y_move rfl)) ?_
      refine Wa rfl (fun R1 hR1 G => (y_subu rfl rfl (by omega))) ?_
      refine Wa rfl (fun R1 hR1 G => (y_move rfl)) ?_
      refine Wa rfl (fun R1 hR1 G => (y_move rfl)) ?_
      refine Wa rfl (fun R1 hR1 G => (y_slice_sl (l := i) (h := l.length) Tryz.underlying32 Tryz.sizeOf60 rfl ⟨.i64, rfl⟩ rfl (by omega))) ?_
      refine fj_nil ?_
      refine xj_rj rfl ?_
      try simp only [cA, nA, List.append_nil]
      refine Ra Tryz.call89 (lgAdd_t b.l b.d v.va v.u _ x.g D n (bh + 1 + i - 1) (l.drop i) hg (by unfold u64B; omega) hva hsd (by omega) (fun e he => ⟨by have := (hdb e he).1; unfold u64B; omega, by have := (hdb e he).2; omega⟩) hdE hD (by omega)) ?_
      rintro r R4 L' hR4 ⟨rfl, u2, va2, hva2, rfl⟩
      rw [← hra] at hva2 ⊢
      try simp only [cA, nA]
      refine rj_xk le_ sb_ ?_
      refine xj_nil ?_
      try simp only [cA, nA, List.append_nil]
      refine rj_call (wn0 rfl) rfl Tryz.call39 rfl (must_t b (v.logd u2 va2) x _) sp_ (fun ch Rp Lp hRp hpp => ?_) ?_
      · obtain ⟨he1, rfl, rfl⟩ := hpp
        try simp only [cA, nA]
        refine hpan _ _ _ _ ?_
        refine ej_pan _ (ndL b (v.logd u2 va2) { x with g := ra.2.1, down := true } ra.2.2) (by first | exact Hp.le_refl _ | assumption | exact Hp.le_trans ‹_› ‹_› | exact Hp.le_trans hR4 hRp) rfl sb_ ?_
        exact ⟨by rw [hAs]; simp [bindN, mustN, he1], rfl, v.logd u2 va2, by rw [hAs]; simp only [bindN, mustN, if_neg he1]; exact hv.logd (y := { x with g := ra.2.1, down := true }) (Hp.le_trans hR4 hRp) ⟨rfl, rfl⟩ (hva2.mono hRp), by rw [hAs]; simp [bindN, mustN, he1]⟩
      rintro r R5 L' hR5 ⟨he0, rfl⟩
      have hx1 : NIn (k + 1) { x with g := ra.2.1 } := by rw [hra, addD_ok (by rw [← hra]; exact he0)]; exact hx.add hdb hdl
      have hR35 := Hp.le_trans hR4 hR5
      have hv1 : NOk R5 (v.logd u2 va2) { x with g := ra.2.1 } := hv.logd (y := { x with g := ra.2.1 }) hR35 ⟨rfl, rfl⟩ (hva2.mono hR5)
      try simp only [cA, nA]
      refine rj_nil ?_
      refine hK25 _ _ _ ?_
      refine cj_env (eL 0 rfl (eL 3 rfl (eL 12 rfl eN))) ?_
      refine cj_exit ?_
      refine ej_join hJ21 (({ x with g := ra.2.1 }, v.logd u2 va2, ra.2.2, R5)) (⟨hx1, hv1, hR35, by rw [hAs]; simp [bindN, mustN, he0]⟩) (eC rfl (eC rfl (eC rfl eN))) rfl sb_
   ·try simp only [dT, dF, nT, nF, tF, fT] at hc89
    refine cj_exit ?_
    refine ej_join hJ21 ((x, v, D, R)) (⟨hx.le (by omega), hv, Hp.le_refl _, by rw [hnot, restN_none (by rw [hfk, List.drop_of_length_le (by (try simp at hc89); omega)]; rfl)]⟩) (eC rfl (eC rfl (eC rfl eN))) rfl sb_
  refine cj_seq fun K26 hK26 => ?_
  refine cj_region ?_
  refine Pm ?_
  refine Pa (y_nilCheck rfl) ?_
  refine Pa (Ga Tryz.underlying81 Tryz.sizeOf44) ?_
  first | refine Pa (La o44) ?_ | refine Pa (Ls o44) ?_
  refine Pa (Ca Tryz.call18 (lgBase_q b.l (some ⟨b.d, 0, none⟩) v.va x.g)) ?_
  refine Pm ?_
  refine Pa (y_extract rfl rfl) ?_
  refine Pa (y_extract rfl rfl) ?_
  refine Pa (y_extract rfl rfl) ?_
  refine Ps ?_
  refine Ps ?_
  refine Ps ?_
  refine rj_nil ?_
  refine hK26 _ _ _ ?_
  refine cj_seq fun K27 hK27 => ?_
  refine cj_region ?_
  refine Pm ?_
  refine Pm ?_
  refine Pa (y_lss rfl rfl) ?_
  refine rj_nil ?_
  refine hK27 _ _ _ ?_
  refine cj_cond rfl (fun hc33 => ?_) (fun hc33 => ?_)
  ·have f1 : m.index < x.g.base := by simpa using hc33
   refine cj_seq fun K29 hK29 => ?_
   refine cj_seq fun K30 hK30 => ?_
   refine cj_region ?_
   refine Pm ?_
   first | refine Pa (y_len_sl Tryz.underlying32 rfl) ?_ | refine Pa (y_len_slc Tryz.underlying32 rfl fd_) ?_
   refine Pa ((y_conv_in Tryz.underlying3 Tryz.underlying31 rfl (by (simp only [IntKind.min, IntKind.max, IntKind.signed, IntKind.bits, Bool.false_eq_true, ite_false, ite_true]; omega)))) ?_
   refine Pm ?_
   refine Pm ?_
   refine Pa ((y_subu rfl rfl (by omega))) ?_
   refine Pa (y_lss rfl rfl) ?_
   refine rj_nil ?_
   refine hK30 _ _ _ ?_
   refine cj_env (eL 0 rfl (eL 3 rfl (eL 4 rfl (eL 5 rfl (eL 6 rfl (eL 40 rfl eN)))))) ?_
   refine cj_cond rfl (fun hc40 => ?_) (fun hc40 => ?_)
   ·have f2 : (m.es.length : Int) < x.g.base - m.index := by (try simp at hc40); omega
    refine cj_seq fun K32 hK32 => ?_
    refine cj_region ?_
    refine Pm ?_
    first | refine Pa (Lb m48) ?_ | refine Pa (y_loads_slc m48 rfl fd_ rfl rfl om_) ?_
    refine Pm ?_
    refine Ra Tryz.call68 (answer_t b v x m (.slice qe m.es.length ce) _ _ hv.out hv.vo (by omega) hveo) ?_
    rintro r R2 L' hR2 ⟨vo, css, hels, hvo2, rfl⟩
    try simp only [cA, nA]
    refine rj_nil ?_
    refine hK32 _ _ _ ?_
    refine cj_env eN ?_
    refine cj_ret ?_
    refine hret _ _ _ ?_
    apply ej_ret Tryz.results69 .nil _ (ndL b (v.sent vo css) (x.answer m _ _) D) (by first | exact Hp.le_refl _ | assumption) rfl
    case hp => unfold addN; first|(rw [if_pos ⟨f1, f2⟩]; exact ⟨rfl, _, hv.sent (y := x.answer m true x.g.base) hR2 ⟨rfl, rfl⟩ hels hvo2, rfl⟩)|(rw [if_neg (fun h => f1 h.1), if_pos ⟨f1, f4⟩]; exact ⟨rfl, _, hv.sent (y := x.answer m false (min x.g.last (max m.index 1 - 1))) hR2 ⟨rfl, rfl⟩ hels hvo2, rfl⟩)
    case hS => exact sb_
   ·have f2 : ¬ (m.es.length : Int) < x.g.base - m.index := by (try simp at hc40); omega
    refine cj_skip ?_
    refine hK29 _ _ _ ?_
    refine cj_draw (by kernel_rfl) (by kernel_rfl) ?_
    have hsub := hve.sub (a := (x.g.base - m.index).toNat) (b := m.es.length) (by omega) (by omega)
    rw [List.take_of_length_le (by simp)] at hsub
    have hA1 := addN_eq (x := x) (D := D) (m := m) (fun h => f2 h.2) (fun h => h.1 f1)
    rw [show x.cutM m = (x.g.base, m.es.drop (x.g.base - m.index).toNat) by unfold ND.cutM; rw [if_pos f1]] at hA1
    refine Qa (y_move rfl) ?_
    refine Qa (y_move rfl) ?_
    refine Qa (y_move rfl) ?_
    refine Qa (y_move rfl) ?_
    refine Qa ((y_subu rfl rfl (by omega))) ?_
    refine Qa ((y_slice_sl (l := (x.g.base - m.index).toNat) (h := m.es.length) Tryz.underlying32 Tryz.sizeOf60 rfl ⟨.u64, by rw [show (((x.g.base - m.index).toNat : Nat) : Int) = x.g.base - m.index by omega]; rfl⟩ rfl (by omega))) ?_
    refine Qa (y_assign rfl) ?_
    refine Qa (y_assign rfl) ?_
    refine qj_nil ?_
    refine ej_join hJ11 ((x.g.base, m.es.drop (x.g.base - m.index).toNat, _)) (⟨by unfold ND.cutM; rw [if_pos f1], hsub, hA1⟩) (eC rfl (eC rfl (eC rfl (eC rfl eN)))) rfl sb_
  ·have f1 : ¬ m.index < x.g.base := by simpa using hc33
   refine cj_seq fun K33 hK33 => ?_
   refine cj_region ?_
   refine Pm ?_
   refine Pa (y_nilCheck rfl) ?_
   refine Pa (Ga Tryz.underlying81 Tryz.sizeOf44) ?_
   first | refine Pa (La o44) ?_ | refine Pa (Ls o44) ?_
   refine Pm ?_
   refine Pa (Ca Tryz.call96 (lgTermAt_q b.l (some ⟨b.d, 0, none⟩) v.va x.g hg hva m.index (by unfold u64B; omega))) ?_
   refine rj_eq 57 rfl (v' := tupOf [.int .u64 ((x.g.termAt m.index).getD 0), .bool (x.g.termAt m.index).isSome]) (numV_eq _) ?_
   refine Pm ?_
   refine Pa (y_extract rfl rfl) ?_
   refine Pa (y_extract rfl rfl) ?_
   refine Ps ?_
   refine Ps ?_
   refine rj_nil ?_
   refine hK33 _ _ _ ?_
   refine cj_env (eL 0 rfl (eL 3 rfl (eL 4 rfl (eL 5 rfl (eL 9 rfl (eL 10 rfl eN)))))) ?_
   refine cj_seq fun K34 hK34 => ?_
   refine cj_region ?_
   refine Pm ?_
   refine Pa (y_not rfl) ?_
   refine Pm ?_
   refine rj_part 62 rfl (fun hg62 => ?_) (fun hg62 => ?_)
   ·have f3 : (x.g.termAt m.index).isSome = false := by simpa using hg62
    have f4 : ¬ x.g.termAt m.index = some m.logTerm := termAt_some.2 (.inl f3)
    refine Pk ?_
    refine Pk ?_
    refine Pk ?_
    refine Pk ?_
    refine Pa (y_pick_t rfl rfl) ?_
    refine rj_nil ?_
    refine hK34 _ _ _ ?_
    refine cj_cond_t rfl ?_
    refine cj_seq fun K35 hK35 => ?_
    refine cj_region ?_
    refine Pm ?_
    refine Pa (y_nilCheck rfl) ?_
    refine Pa (Ga Tryz.underlying81 Tryz.sizeOf44) ?_
    first | refine Pa (La o44) ?_ | refine Pa (Ls o44) ?_
    refine Pa (Ca Tryz.call19 (lgLast_q b.l (some ⟨b.d, 0, none⟩) v.va x.g hg hva)) ?_
    refine Pm ?_
    refine Pa (y_max rfl rfl) ?_
    refine Pa ((y_subu rfl rfl (by omega))) ?_
    refine Pa (y_min rfl rfl) ?_
    refine Ps ?_
    refine rj_nil ?_
    refine hK35 _ _ _ ?_
    refine cj_env (eL 0 rfl (eL 3 rfl (eL 11 rfl eN))) ?_
    refine cj_seq fun K36 hK36 => ?_
    refine cj_region ?_
    refine Pm ?_
    first | refine Pa (Lb m48) ?_ | refine Pa (y_loads_slc m48 rfl fd_ rfl rfl om_) ?_
    refine Pm ?_
    refine Ra Tryz.call68 (answer_t b v x m (.slice qe m.es.length ce) _ _ hv.out hv.vo (by omega) hveo) ?_
    rintro r R2 L' hR2 ⟨vo, css, hels, hvo2, rfl⟩
    try simp only [cA, nA]
    refine rj_nil ?_
    refine hK36 _ _ _ ?_
    refine cj_env eN ?_
    refine cj_ret ?_
    refine hret _ _ _ ?_
    apply ej_ret Tryz.results69 .nil _ (ndL b (v.sent vo css) (x.answer m _ _) D) (by first | exact Hp.le_refl _ | assumption) rfl
    case hp => unfold addN; first|(rw [if_pos ⟨f1, f2⟩]; exact ⟨rfl, _, hv.sent (y := x.answer m true x.g.base) hR2 ⟨rfl, rfl⟩ hels hvo2, rfl⟩)|(rw [if_neg (fun h => f1 h.1), if_pos ⟨f1, f4⟩]; exact ⟨rfl, _, hv.sent (y := x.answer m false (min x.g.last (max m.index 1 - 1))) hR2 ⟨rfl, rfl⟩ hels hvo2, rfl⟩)
    case hS => exact sb_
   ·have f3 : (x.g.termAt m.index).isSome = true := by simpa using hg62
    refine Pb (y_move rfl) ?_
    refine Pb (Ga Tryz.underlying48 Tryz.sizeOf31) ?_
    first | refine Pb (La o31) ?_ | refine Pb (Ls o31) ?_
    refine Pb (y_neq rfl rfl) ?_
    refine Pa (y_pick_f rfl rfl) ?_
    refine rj_nil ?_
    refine hK34 _ _ _ ?_
    refine cj_cond rfl (fun hc67 => ?_) (fun hc67 => ?_)
    ·first|(have f4 : ¬ x.g.termAt m.index = some m.logTerm := termAt_some.2 (.inr (by simpa using hc67)))|skip
     refine cj_seq fun K38 hK38 => ?_
     refine cj_region ?_
     refine Pm ?_
     refine Pa (y_nilCheck rfl) ?_
     refine Pa (Ga Tryz.underlying81 Tryz.sizeOf44) ?_
     first | refine Pa (La o44) ?_ | refine Pa (Ls o44) ?_
     refine Pa (Ca Tryz.call19 (lgLast_q b.l (some ⟨b.d, 0, none⟩) v.va x.g hg hva)) ?_
     refine Pm ?_
     refine Pa (y_max rfl rfl) ?_
     refine Pa ((y_subu rfl rfl (by omega))) ?_
     refine Pa (y_min rfl rfl) ?_
     refine Ps ?_
     refine rj_nil ?_
     refine hK38 _ _ _ ?_
     refine cj_env (eL 0 rfl (eL 3 rfl (eL 11 rfl eN))) ?_
     refine cj_seq fun K39 hK39 => ?_
     refine cj_region ?_
     refine Pm ?_
     first | refine Pa (Lb m48) ?_ | refine Pa (y_loads_slc m48 rfl fd_ rfl rfl om_) ?_
     refine Pm ?_
     refine Ra Tryz.call68 (answer_t b v x m (.slice qe m.es.length ce) _ _ hv.out hv.vo (by omega) hveo) ?_
     rintro r R2 L' hR2 ⟨vo, css, hels, hvo2, rfl⟩
     try simp only [cA, nA]
     refine rj_nil ?_
     refine hK39 _ _ _ ?_
     refine cj_env eN ?_
     refine cj_ret ?_
     refine hret _ _ _ ?_
     apply ej_ret Tryz.results69 .nil _ (ndL b (v.sent vo css) (x.answer m _ _) D) (by first | exact Hp.le_refl _ | assumption) rfl
     case hp => unfold addN; first|(rw [if_pos ⟨f1, f2⟩]; exact ⟨rfl, _, hv.sent (y := x.answer m true x.g.base) hR2 ⟨rfl, rfl⟩ hels hvo2, rfl⟩)|(rw [if_neg (fun h => f1 h.1), if_pos ⟨f1, f4⟩]; exact ⟨rfl, _, hv.sent (y := x.answer m false (min x.g.last (max m.index 1 - 1))) hR2 ⟨rfl, rfl⟩ hels hvo2, rfl⟩)
     case hS => exact sb_
    ·have f4 : ¬ ¬ x.g.termAt m.index = some m.logTerm := fun h => by (rcases termAt_some.1 h with h | h <;> first | (rw [f3] at h; cases h; done) | (simp at hc67; exact h hc67))
     have hA2 := addN_eq (x := x) (D := D) (m := m) (fun h => f1 h.1) (fun h => f4 h.2)
     rw [show x.cutM m = (m.index, m.es) by unfold ND.cutM; rw [if_neg f1]] at hA2
     refine cj_skip ?_
     refine ej_join hJ11 ((m.index, m.es, _)) (⟨by unfold ND.cutM; rw [if_neg f1], hve, hA2⟩) (eC rfl (eC rfl (eC rfl (eC rfl eN)))) rfl sb_
end V
end Go.Proofs.YtjdbigplednihaaGreat
set_option linter.unusedSimpArgs false
set_option linter.unusedVariables false
set_option maxRecDepth 100000
namespace Go.Proofs.YtjdbigplednihaaGreat
open Go.RowKit
namespace V
set_option maxHeartbeats 4000000
theorem ents_le {l : List Ent} (hb : ∀ e ∈ l, e.2.length ≤ 100) : entsLen l ≤ 120 * l.length := by
  induction l with
  | nil => simp [entsLen]
  | cons e l ih =>
    have h1 := ih (fun x hx => hb x (by simp [hx]))
    have h2 := hb e (by simp)
    simp [entsLen] at h1 ⊢; omega
def LG.inst (g : LG) (i t : Int) (s : Bs) : LG := if g.termAt i = some t then g.comp i s else g.base0 i t s
theorem swapD_ok {g to : LG} {D : DK} (h : (g.swapD D to).1 = 0) : (g.swapD D to).2.1 = to := by
  unfold LG.swapD at h ⊢
  split
  · rfl
  · rename_i h1; rw [if_neg h1] at h; exact absurd h h1
theorem compD_ok {g : LG} {D : DK} {i : Int} {s : Bs} (h : (g.compD D i s).1 = 0) : (g.compD D i s).2.1 = g.comp i s := by
  unfold LG.compD at h ⊢
  split at h
  · cases h
  · split at h
    · cases h
    · rename_i h1 h2
      rw [if_neg h1, if_neg h2]; exact swapD_ok h
theorem instD_ok {g : LG} {D : DK} {i t : Int} {s : Bs} (h : (g.instD D i t s).1 = 0) : (g.instD D i t s).2.1 = g.inst i t s := by
  unfold LG.instD at h ⊢
  split at h
  · cases h
  · split at h
    · cases h
    · rename_i h1 h2
      rw [if_neg h1, if_neg h2]
      unfold LG.inst
      split
      · rename_i h3; rw [if_pos h3] at h; exact compD_ok h
      · rename_i h3; rw [if_neg h3] at h; exact swapD_ok h
theorem termAt_tb {k : Nat} {x : ND} (hx : NIn k x) (i : Int) : 0 ≤ (x.g.termAt i).getD 0 ∧ (x.g.termAt i).getD 0 ≤ 2305843009213693952 + k := by
  unfold LG.termAt
  split
  · exact hx.baseT
  · cases h : x.g.at i with
    | none => simp; omega
    | some e => exact (hx.all e (LG.at_mem h)).1
theorem NIn.inst {k : Nat} {x : ND} (h : NIn k x) {i t : Int} {s : Bs} (hi : 0 ≤ i ∧ i ≤ 100000000000000) (ht : 0 ≤ t ∧ t ≤ 2305843009213693952 + k) (hs : s.length ≤ 1000000) : NIn k { x with g := x.g.inst i t s } := by
  unfold LG.inst
  split
  · exact ⟨h.idn, h.term, h.vote, hi, termAt_tb h i, hs, by have := h.alln; show (x.g.all.drop _).length ≤ _; simp; omega, fun e he => h.all e (List.mem_of_mem_drop he), h.commit, h.patience, h.peers, h.peer, h.votes, h.out⟩
  · exact ⟨h.idn, h.term, h.vote, hi, ht, hs, by show 0 ≤ _; omega, fun e he => (by cases he), h.commit, h.patience, h.peers, h.peer, h.votes, h.out⟩
theorem NIn.comm {k : Nat} {x : ND} (h : NIn k x) {c : Int} (hc : 0 ≤ c ∧ c ≤ 150000000000000) : NIn k { x with commit := c } :=
  ⟨h.idn, h.term, h.vote, h.base, h.baseT, h.state, h.alln, h.all, hc, h.patience, h.peers, h.peer, h.votes, h.out⟩
theorem NIn.follows {k : Nat} {x : ND} (h : NIn k x) (m : Msg) : NIn k (x.follows m) :=
  ⟨h.idn, h.term, h.vote, h.base, h.baseT, h.state, h.alln, h.all, h.commit, ⟨by show (0 : Int) ≤ 0; omega, by show (0 : Int) ≤ _; omega⟩, fun hr => absurd (show (0 : Int) = 2 from hr) (by decide), h.peer, h.votes, h.out⟩
theorem NOk.follows {R : Hp} {v : NV} {x : ND} (h : NOk R v x) (m : Msg) : NOk R v (x.follows m) := ⟨h.va, h.out, h.vm, h.vp, h.vo, fun hr => absurd (show (0 : Int) = 1 from hr) (by decide)⟩
theorem fed_t {R : Hp} (b : NB) (v : NV) (x : ND) (D : DK) (m : Msg) (ve : Value) (k n : Nat) (hk : k ≤ 50) (hx : NIn k x) (hv : NOk R v x) (hm : MIn k x.n m) (hve : FrX entE R m.es ve) (hD : D.ok n) (hn : n ≤ 800000000) :
    Tri Tryz.prog 43 [.pointer (some ⟨b.x, 0, none⟩), .agg ⟨msgC m ve⟩] R (ndL b v x D) (NRet b (fedN (x, D) m)) (NPan b (fedN (x, D) m)) := by
  have hveo := hve.one
  have hob := hx.out
  have hg := hx.g (by omega)
  have hlb := LG.last_b hg
  have hidx := hm.index
  have hlt := hm.logTerm
  have hco := hx.commit
  have hbs := hx.base
  have hle : x.g.last = x.g.base + x.g.all.length := rfl
  have hfo := hx.follows m
  have hfv := hv.follows m
  have hal := hx.alln
  have hen := ents_le (fun e he => (hx.all e he).2)
  refine tri_of Tryz.func43 rfl Tryz.ntmps43 rfl (fun σ F Q hret hend hpan => ?_)
  try simp only [cA, nA]
  refine cj_seq fun K1 hK1 => ?_
  refine cj_region ?_
  refine rj_box (wn0 rfl) rfl rfl rfl (fun b3 => ?_)
  refine rj_nil ?_
  refine hK1 _ _ _ ?_
  refine cj_seq fun K2 hK2 => ?_
  refine cj_block ?_
  refine cj_seq fun K3 hK3 => ?_
  refine cj_draw (by kernel_rfl) (by kernel_rfl) ?_
  refine Qa (Ga Tryz.underlying48 Tryz.sizeOf31) ?_
  first | refine Qa (La o31) ?_ | refine Qa (Ls o31) ?_
  refine Qa (y_move rfl) ?_
  refine Qa (y_nilCheck rfl) ?_
  refine Qa (Ga Tryz.underlying81 Tryz.sizeOf44) ?_
  first | refine Qa (La o44) ?_ | refine Qa (Ls o44) ?_
  refine Qa (Ca Tryz.call13 (lgTerm_q b.l (some ⟨b.d, 0, none⟩) v.va x.g)) ?_
  refine Qa (y_lss rfl rfl) ?_
  refine Qa (y_assign rfl) ?_
  refine qj_nil ?_
  refine hK3 _ _ _ ?_
  refine cj_cond rfl (fun hc4 => ?_) (fun hc4 => ?_)
  ·have f1 : m.term < x.g.term := by simpa using hc4
   have hN : fedN (x, D) m = (true, (x.answer m false 0, D)) := by unfold fedN; rw [if_pos f1]
   refine cj_seq fun K5 hK5 => ?_
   refine cj_region ?_
   refine Pm ?_
   first | refine Pa (Lb m48) ?_ | refine Pa (y_loads_slc m48 rfl fd_ rfl rfl om_) ?_
   refine Ra Tryz.call68 (answer_t b v x m ve false 0 hv.out hv.vo (by omega) hveo) ?_
   rintro r R2 L' hR2 ⟨vo, css, hels, hvo2, rfl⟩
   try simp only [cA, nA]
   refine rj_nil ?_
   refine hK5 _ _ _ ?_
   refine cj_env eN ?_
   refine cj_ret ?_
   refine hret _ _ _ ?_
   refine Ea Tryz.results43 .nil (ndL b (v.sent vo css) (x.answer m false 0) D) (by first | exact Hp.le_refl _ | assumption) ?_
   rw [hN]; exact ⟨rfl, _, hv.sent (y := x.answer m false 0) hR2 ⟨rfl, rfl⟩ hels hvo2, rfl⟩
  ·have f1 : ¬ m.term < x.g.term := by simpa using hc4
   refine cj_seq fun K6 hK6 => ?_
   refine cj_region ?_
   refine Pm ?_
   refine Pa (y_nilCheck rfl) ?_
   refine Pa (Ga Tryz.underlying81 Tryz.sizeOf3) ?_
   first | refine Pa (La o3) ?_ | refine Pa (Ls o3) ?_
   refine Pa (y_eql rfl rfl) ?_
   refine Ps ?_
   refine rj_nil ?_
   refine hK6 _ _ _ ?_
   refine cj_cond rfl (fun hc16 => ?_) (fun hc16 => ?_)
   ·have f2 : x.role = 2 := by simpa using hc16
    have hN : fedN (x, D) m = (true, (x, D)) := by unfold fedN; rw [if_neg f1, if_pos f2]
    refine cj_ret ?_
    refine hret _ _ _ ?_
    refine Ea Tryz.results43 .nil (ndL b v x D) (by first | exact Hp.le_refl _ | assumption) ?_
    rw [hN]; exact ⟨rfl, v, hv, rfl⟩
   ·have f2 : ¬ x.role = 2 := by simpa using hc16
    refine cj_skip ?_
    refine hK2 _ _ _ ?_
    refine cj_seq fun K8 hK8 => ?_
    refine cj_mixg (L := [blk b3 (msgC m ve) 48]) [0, 1, 2, 3, 4, 5, 6] [7, 8, 9, 10] [11, 12, 13] _ sb_ (by kernel_rfl) (by kernel_rfl) (by kernel_rfl) rfl ?_
    refine Wa rfl (fun R1 hR1 G => (y_move rfl)) ?_
    refine Wa rfl (fun R1 hR1 G => (y_move rfl)) ?_
    refine Wa rfl (fun R1 hR1 G => (y_move rfl)) ?_
    refine Wa rfl (fun R1 hR1 G => (Ga Tryz.underlying48 Tryz.sizeOf3)) ?_
    first | refine Wa rfl (fun R1 hR1 G => (La o3)) ?_ | refine Wa rfl (fun R1 hR1 G => (Ls o3)) ?_
    refine Wa rfl (fun R1 hR1 G => (y_nilCheck rfl)) ?_
    refine Wa rfl (fun R1 hR1 G => (Ga Tryz.underlying81 Tryz.sizeOf3)) ?_
    refine fj_nil ?_
    refine xj_rj rfl ?_
    try simp only [cA, nA, List.append_nil]
    refine Sa o3 ?_
    refine rj_xk le_ sb_ ?_
    refine xj_rj rfl ?_
    try simp only [cA, nA, List.append_nil]
    refine Pa (y_nilCheck rfl) ?_
    refine rj_xk le_ sb_ ?_
    refine xj_rj rfl ?_
    try simp only [cA, nA, List.append_nil]
    refine Pa (Ga Tryz.underlying81 Tryz.sizeOf3) ?_
    refine rj_xk le_ sb_ ?_
    refine xj_rj rfl ?_
    try simp only [cA, nA, List.append_nil]
    refine Sa o3 ?_
    refine rj_xk le_ sb_ ?_
    refine xj_nil ?_
    try simp only [cA, nA, List.append_nil]
    refine Pa (y_nilCheck rfl) ?_
    refine Pa (Ga Tryz.underlying81 Tryz.sizeOf3) ?_
    refine Sa o3 ?_
    refine rj_nil ?_
    refine hK8 _ _ _ ?_
    refine cj_env (eL 0 rfl (eL 3 rfl eN)) ?_
    refine cj_seq fun K9 hK9 => ?_
    refine cj_seq fun K10 hK10 => ?_
    refine cj_region ?_
    refine Pa (Ga Tryz.underlying48 Tryz.sizeOf3) ?_
    first | refine Pa (La o3) ?_ | refine Pa (Ls o3) ?_
    refine Pa (y_eql rfl rfl) ?_
    refine rj_nil ?_
    refine hK10 _ _ _ ?_
    refine cj_cond rfl (fun hc35 => ?_) (fun hc35 => ?_)
    ·have f3 : m.kind = 2 := by simpa using hc35
     have hN : fedN (x, D) m = addN (x.follows m, D) m := by unfold fedN; rw [if_neg f1, if_neg f2, if_pos f3]
     refine cj_seq fun K12 hK12 => ?_
     refine cj_region ?_
     refine Pm ?_
     first | refine Pa (Lb m48) ?_ | refine Pa (y_loads_slc m48 rfl fd_ rfl rfl om_) ?_
     refine rj_call (wn0 rfl) rfl Tryz.call69 rfl (add_t b v (x.follows m) D m ve k n hk hfo hfv hm hve hD hn) sp_ (fun ch Rp Lp hRp hpp => ?_) ?_
     · obtain ⟨hF, rfl, v3, hv3, rfl⟩ := hpp
       try simp only [cA, nA]
       refine hpan _ _ _ _ ?_
       refine ej_pan _ (ndL b v3 (addN (x.follows m, D) m).2.1 (addN (x.follows m, D) m).2.2) (by first | exact Hp.le_refl _ | assumption | exact Hp.le_trans ‹_› ‹_›) rfl sb_ ?_
       exact ⟨by rw [hN]; exact hF, rfl, v3, by rw [hN]; exact hv3, by rw [hN]⟩
     rintro r R8 L' hR8 ⟨hF, v3, hv3, rfl⟩
     try simp only [cA, nA]
     refine rj_nil ?_
     refine hK12 _ _ _ ?_
     refine cj_env eN ?_
     refine cj_ret ?_
     refine hret _ _ _ ?_
     refine Ea Tryz.results43 .nil (ndL b v3 (addN (x.follows m, D) m).2.1 (addN (x.follows m, D) m).2.2) (by first | exact Hp.le_refl _ | assumption) ?_
     rw [hN]; exact ⟨hF, v3, hv3, rfl⟩
    ·have f3 : ¬ m.kind = 2 := by simpa using hc35
     have hN : fedN (x, D) m = snapN (x.follows m, D) m := by unfold fedN; rw [if_neg f1, if_neg f2, if_neg f3]
     refine cj_skip ?_
     refine hK9 _ _ _ ?_
     refine cj_seq fun K13 hK13 => ?_
     have hJ10 : ∀ (x9 : ND × NV × DK × Hp), NIn (k + 1) x9.1 ∧ NOk x9.2.2.2 x9.2.1 x9.1 ∧ R.le x9.2.2.2 ∧ fedN (x, D) m = (true, (x9.1.answer m true x9.1.commit, x9.2.2.1)) → EJ ⟨Tryz.prog, 71, σ⟩ K13 [(0, .pointer (some ⟨b.x, 0, none⟩)), (3, .pointer (some ⟨b3, 0, none⟩))] x9.2.2.2 (blk b3 (msgC m ve) 48 :: ndB b x9.2.1 x9.1 :: lgN b x9.2.1 x9.1 :: dkB b.d x9.2.1.u x9.2.2.1 :: dkS x9.2.1.u x9.2.2.1 :: prA x9.2.1 x9.1 :: mpA x9.2.1.vm x9.1.votes :: outA x9.2.1 x9.1 :: F) := by
      rintro ⟨y, v2, D2, R2⟩ ⟨hy, hv2, hR2, hF⟩
      try dsimp only
      dsimp only at hy hv2 hR2 hF
      have hyo := hy.out
      refine hK13 _ _ _ ?_
      refine cj_mixg (L := [blk b3 (msgC m ve) 48, ndB b v2 y]) [0, 1, 2, 3, 4, 5] [] [6] _ sb_ (by kernel_rfl) (by kernel_rfl) (by kernel_rfl) rfl ?_
      refine Wa rfl (fun R1 hR1 G => (y_move rfl)) ?_
      first | refine Wa rfl (fun R1 hR1 G => (Lb m48)) ?_ | refine Wa rfl (fun R1 hR1 G => (y_loads_slc m48 rfl fd_ rfl rfl om_)) ?_
      refine Wa rfl (fun R1 hR1 G => (y_move rfl)) ?_
      refine Wa rfl (fun R1 hR1 G => (y_nilCheck rfl)) ?_
      refine Wa rfl (fun R1 hR1 G => (Ga Tryz.underlying81 Tryz.sizeOf31)) ?_
      first | refine Wa rfl (fun R1 hR1 G => (La o31)) ?_ | refine Wa rfl (fun R1 hR1 G => (Ls o31)) ?_
      refine fj_nil ?_
      refine xj_nil ?_
      try simp only [cA, nA, List.append_nil]
      refine Ra Tryz.call68 (answer_t b v2 y m ve true y.commit hv2.out hv2.vo (by omega) hveo) ?_
      rintro r R6 L' hR6 ⟨vo, css, hels, hvo2, rfl⟩
      have hR26 := Hp.le_trans hR2 hR6
      try simp only [cA, nA]
      refine rj_nil ?_
      refine hend _ _ _ ?_
      apply ej_end Tryz.results43 .nil _ (ndL b (v2.sent vo css) (y.answer m true y.commit) D2) (by first | exact Hp.le_refl _ | assumption) rfl
      case hp => rw [hF]; exact ⟨rfl, _, hv2.sent (y := y.answer m true y.commit) hR6 ⟨rfl, rfl⟩ hels hvo2, rfl⟩
      case hS => exact sb_
     refine cj_seq fun K14 hK14 => ?_
     refine cj_draw (by kernel_rfl) (by kernel_rfl) ?_
     refine Qa (Ga Tryz.underlying48 Tryz.sizeOf31) ?_
     first | refine Qa (La o31) ?_ | refine Qa (Ls o31) ?_
     refine Qa (y_move rfl) ?_
     refine Qa (y_nilCheck rfl) ?_
     refine Qa (Ga Tryz.underlying81 Tryz.sizeOf31) ?_
     first | refine Qa (La o31) ?_ | refine Qa (Ls o31) ?_
     refine Qa (y_gtr rfl rfl) ?_
     refine qj_nil ?_
     refine hK14 _ _ _ ?_
     refine cj_env (eL 0 rfl (eL 3 rfl (eL 45 rfl eN))) ?_
     refine cj_cond rfl (fun hc45 => ?_) (fun hc45 => ?_)
     ·have f4 : m.index > x.commit := by (try simp at hc45); omega
      obtain ⟨ra, hra⟩ : ∃ r, r = x.g.instD D m.index m.logTerm m.state := ⟨_, rfl⟩
      have hS : snapN (x.follows m, D) m = bindN (mustN (x.follows m, D) ra) fun s => (true, ({ s.1 with commit := m.index }.answer m true m.index, s.2)) := by unfold snapN; rw [if_pos (show m.index > (x.follows m).commit from f4), hra]; rfl
      rw [hS] at hN
      refine cj_seq fun K16 hK16 => ?_
      refine cj_mixg (L := [blk b3 (msgC m ve) 48, ndB b v (x.follows m)]) [0, 1, 2, 3, 4, 5, 6, 7, 8, 9, 10] [11] [12] _ sb_ (by kernel_rfl) (by kernel_rfl) (by kernel_rfl) rfl ?_
      refine Wa rfl (fun R1 hR1 G => (y_move rfl)) ?_
      refine Wa rfl (fun R1 hR1 G => (y_move rfl)) ?_
      refine Wa rfl (fun R1 hR1 G => (y_nilCheck rfl)) ?_
      refine Wa rfl (fun R1 hR1 G => (Ga Tryz.underlying81 Tryz.sizeOf44)) ?_
      first | refine Wa rfl (fun R1 hR1 G => (La o44)) ?_ | refine Wa rfl (fun R1 hR1 G => (Ls o44)) ?_
      refine Wa rfl (fun R1 hR1 G => (Ga Tryz.underlying48 Tryz.sizeOf31)) ?_
      first | refine Wa rfl (fun R1 hR1 G => (La o31)) ?_ | refine Wa rfl (fun R1 hR1 G => (Ls o31)) ?_
      refine Wa rfl (fun R1 hR1 G => (Ga Tryz.underlying48 Tryz.sizeOf31)) ?_
      first | refine Wa rfl (fun R1 hR1 G => (La o31)) ?_ | refine Wa rfl (fun R1 hR1 G => (Ls o31)) ?_
      refine Wa rfl (fun R1 hR1 G => (Ga Tryz.underlying48 Tryz.sizeOf9)) ?_
      first | refine Wa rfl (fun R1 hR1 G => (La o9)) ?_ | refine Wa rfl (fun R1 hR1 G => (Ls o9)) ?_
      refine fj_nil ?_
      refine xj_rj rfl ?_
      try simp only [cA, nA, List.append_nil]
      refine Ra Tryz.call70 (lgInstall_t b.l b.d v.va v.u x.g D n m.index m.logTerm m.state hg (by omega) (by unfold u64B; omega) hv.va hm.state (by omega) (by omega) hD) ?_
      rintro r R4 L' hR4 ⟨rfl, u2, va2, hva2, rfl⟩
      rw [← hra] at hva2 ⊢
      try simp only [cA, nA]
      refine rj_xk le_ sb_ ?_
      refine xj_nil ?_
      try simp only [cA, nA, List.append_nil]
      refine rj_call (wn0 rfl) rfl Tryz.call39 rfl (must_t b (v.logd u2 va2) (x.follows m) _) sp_ (fun ch Rp Lp hRp hpp => ?_) ?_
      · obtain ⟨he1, rfl, rfl⟩ := hpp
        try simp only [cA, nA]
        refine hpan _ _ _ _ ?_
        refine ej_pan _ (ndL b (v.logd u2 va2) { (x.follows m) with g := ra.2.1, down := true } ra.2.2) (by first | exact Hp.le_refl _ | assumption | exact Hp.le_trans ‹_› ‹_› | exact Hp.le_trans hR4 hRp) rfl sb_ ?_
        exact ⟨by rw [hN]; simp [bindN, mustN, he1], rfl, v.logd u2 va2, by rw [hN]; simp only [bindN, mustN, if_neg he1]; exact hfv.logd (y := { (x.follows m) with g := ra.2.1, down := true }) (Hp.le_trans hR4 hRp) ⟨rfl, rfl⟩ (hva2.mono hRp), by rw [hN]; simp [bindN, mustN, he1]⟩
      rintro r R5 L' hR5 ⟨he0, rfl⟩
      have hx1 : NIn (k + 1) { (x.follows m) with g := ra.2.1, commit := m.index } := by rw [hra, instD_ok (by rw [← hra]; exact he0)]; exact ((hfo.inst hidx hlt hm.state).comm (by omega)).le (by omega)
      have hR45 := Hp.le_trans hR4 hR5
      have hv1 : NOk R5 (v.logd u2 va2) { (x.follows m) with g := ra.2.1, commit := m.index } := hfv.logd (y := { (x.follows m) with g := ra.2.1, commit := m.index }) hR45 ⟨rfl, rfl⟩ (hva2.mono hR5)
      try simp only [cA, nA]
      refine rj_nil ?_
      refine hK16 _ _ _ ?_
      refine cj_region ?_
      refine Pm ?_
      refine Pa (Ga Tryz.underlying48 Tryz.sizeOf31) ?_
      first | refine Pa (La o31) ?_ | refine Pa (Ls o31) ?_
      refine Pa (y_nilCheck rfl) ?_
      refine Pa (Ga Tryz.underlying81 Tryz.sizeOf31) ?_
      refine Sa o31 ?_
      refine rj_nil ?_
      refine ej_join hJ10 (({ (x.follows m) with g := ra.2.1, commit := m.index }, v.logd u2 va2, ra.2.2, R5)) (⟨hx1, hv1, hR45, by rw [hN]; simp [bindN, mustN, he0]⟩) (eC rfl (eC rfl eN)) rfl sb_
     ·have f4 : ¬ m.index > x.commit := by (try simp at hc45); omega
      have hS : snapN (x.follows m, D) m = (true, ((x.follows m).answer m true x.commit, D)) := by unfold snapN; rw [if_neg (show ¬ m.index > (x.follows m).commit from f4)]; rfl
      rw [hS] at hN
      refine cj_skip ?_
      refine ej_join hJ10 ((x.follows m, v, D, R)) (⟨hfo.le (by omega), hfv, Hp.le_refl _, hN⟩) (eC rfl (eC rfl eN)) rfl sb_
end V
end Go.Proofs.YtjdbigplednihaaGreat
set_option linter.unusedSimpArgs false
set_option linter.unusedVariables false
set_option maxRecDepth 100000
namespace Go.Proofs.YtjdbigplednihaaGreat
open Go.RowKit
namespace V
set_option maxHeartbeats 4000000
structure MIm (k : Nat) (m : Msg) : Prop where
  term : 0 ≤ m.term ∧ m.term ≤ 2305843009213693952 + k
  index : 0 ≤ m.index ∧ m.index ≤ 100000000000000
  logTerm : 0 ≤ m.logTerm ∧ m.logTerm ≤ 2305843009213693952 + k
  commit : 0 ≤ m.commit ∧ m.commit < 18446744073709551616
  es : m.es.length ≤ 20 ∧ ∀ e ∈ m.es, (0 ≤ e.1 ∧ e.1 ≤ 2305843009213693952 + k) ∧ e.2.length ≤ 100
  state : m.state.length ≤ 1000000
theorem MIm.to {k j n : Nat} {m : Msg} (h : MIm k m) (hf : 0 ≤ m.frm ∧ m.frm < n) (hk : k ≤ j) : MIn j n m := MIn.le (k := k) ⟨hf, h.term, h.index, h.logTerm, h.commit, h.es, h.state⟩ hk
theorem NIn.newTerm {k : Nat} {x : ND} (h : NIn k x) : NIn k x.newTerm :=
  ⟨h.idn, h.term, h.vote, h.base, h.baseT, h.state, h.alln, h.all, h.commit, h.patience, fun hr => absurd (show (0 : Int) = 2 from hr) (by decide), h.peer, h.votes, h.out⟩
theorem NOk.newTerm {R : Hp} {v : NV} {x : ND} (h : NOk R v x) : NOk R v x.newTerm := ⟨h.va, h.out, h.vm, h.vp, h.vo, fun hr => absurd (show (0 : Int) = 1 from hr) (by decide)⟩
theorem DK.ok_le {D : DK} {n m : Nat} (h : D.ok n) (hm : n ≤ m) : D.ok m := ⟨h.1, by have := h.2.1; omega, h.2.2⟩
theorem receive1_t {R : Hp} (b : NB) (v : NV) (x : ND) (D : DK) (m : Msg) (ve : Value) (k n bX bM : Nat) (hk : k ≤ 40) (hx : NIn k x) (hv : NOk R v x) (hm : MIm k m) (hve : FrX entE R m.es ve) (hD : D.ok n) (hn : n ≤ 700000000) :
    Tri Tryz.prog 38 [.pointer (some ⟨bM, 0, none⟩), .pointer (some ⟨bX, 0, none⟩)] R (blk bX [.pointer (some ⟨b.x, 0, none⟩)] 30 :: blk bM (msgC m ve) 48 :: ndL b v x D) (NRet b (receiveN (x, D) m)) (NPan b (receiveN (x, D) m)) := by
  have hg := hx.g (by omega)
  have hmt := hm.term
  refine tri_of Tryz.func38 rfl Tryz.ntmps38 rfl (fun σ F Q hret hend hpan => ?_)
  try simp only [cA, nA]
  refine cj_seq fun K1 hK1 => ?_
  refine cj_seq fun K2 hK2 => ?_
  refine cj_draw (by kernel_rfl) (by kernel_rfl) ?_
  refine Qa (Ga Tryz.underlying48 Tryz.sizeOf3) ?_
  first | refine Qa (La o3) ?_ | refine Qa (Ls o3) ?_
  first | refine Qa (La o30) ?_ | refine Qa (Ls o30) ?_
  refine Qa (y_nilCheck rfl) ?_
  refine Qa (Ga Tryz.underlying81 Tryz.sizeOf3) ?_
  first | refine Qa (La o3) ?_ | refine Qa (Ls o3) ?_
  refine Qa (y_neq rfl rfl) ?_
  refine Qa (y_move rfl) ?_
  refine qj_part 9 rfl (fun hg9 => ?_) (fun hg9 => ?_)
  ·have f0 : ¬ m.to = x.id ∨ m.frm = x.id ∨ m.frm < 0 ∨ m.frm ≥ x.n := .inl (by simpa using hg9)
   refine Qk ?_
   refine Qk ?_
   refine Qk ?_
   refine Qk ?_
   refine Qk ?_
   refine Qk ?_
   refine Qk ?_
   refine Qa (y_pick_t rfl rfl) ?_
   refine Qa (y_move rfl) ?_
   refine Qk ?_
   refine Qk ?_
   refine Qk ?_
   refine Qa (y_pick_t rfl rfl) ?_
   refine Qa (y_move rfl) ?_
   refine Qk ?_
   refine Qk ?_
   refine Qk ?_
   refine Qk ?_
   refine Qk ?_
   refine Qk ?_
   refine Qk ?_
   refine Qa (y_pick_t rfl rfl) ?_
   refine qj_nil ?_
   refine hK2 _ _ _ ?_
   refine cj_env (eL 0 rfl (eL 1 rfl (eL 31 rfl eN))) ?_
   refine cj_cond_t rfl ?_
   refine cj_ret ?_
   refine hret _ _ _ ?_
   refine Ea Tryz.results38 .nil (ndL b v x D) (by first | exact Hp.le_refl _ | assumption) ?_
   rw [show receiveN (x, D) m = (true, (x, D)) by unfold receiveN; rw [if_pos f0]]; exact ⟨rfl, v, hv, rfl⟩
  ·have f1 : m.to = x.id := by simpa using hg9
   refine Qb (Ga Tryz.underlying48 Tryz.sizeOf3) ?_
   first | refine Qb (La o3) ?_ | refine Qb (Ls o3) ?_
   first | refine Qb (La o30) ?_ | refine Qb (Ls o30) ?_
   refine Qb (y_nilCheck rfl) ?_
   refine Qb (Ga Tryz.underlying81 Tryz.sizeOf3) ?_
   first | refine Qb (La o3) ?_ | refine Qb (Ls o3) ?_
   refine Qb (y_eql rfl rfl) ?_
   refine Qa (y_pick_f rfl rfl) ?_
   refine Qa (y_move rfl) ?_
   refine qj_part 18 rfl (fun hg18 => ?_) (fun hg18 => ?_)
   ·first|(have f0 : ¬ m.to = x.id ∨ m.frm = x.id ∨ m.frm < 0 ∨ m.frm ≥ x.n := .inr (.inl (by simpa using hg18)))|skip
    refine Qk ?_
    refine Qk ?_
    refine Qk ?_
    refine Qa (y_pick_t rfl rfl) ?_
    refine Qa (y_move rfl) ?_
    refine Qk ?_
    refine Qk ?_
    refine Qk ?_
    refine Qk ?_
    refine Qk ?_
    refine Qk ?_
    refine Qk ?_
    refine Qa (y_pick_t rfl rfl) ?_
    refine qj_nil ?_
    refine hK2 _ _ _ ?_
    refine cj_env (eL 0 rfl (eL 1 rfl (eL 31 rfl eN))) ?_
    refine cj_cond_t rfl ?_
    refine cj_ret ?_
    refine hret _ _ _ ?_
    refine Ea Tryz.results38 .nil (ndL b v x D) (by first | exact Hp.le_refl _ | assumption) ?_
    rw [show receiveN (x, D) m = (true, (x, D)) by unfold receiveN; rw [if_pos f0]]; exact ⟨rfl, v, hv, rfl⟩
   ·first|(have f2 : ¬ m.frm = x.id := by simpa using hg18)|skip
    refine Qb (Ga Tryz.underlying48 Tryz.sizeOf3) ?_
    first | refine Qb (La o3) ?_ | refine Qb (Ls o3) ?_
    refine Qb (y_lss rfl rfl) ?_
    refine Qa (y_pick_f rfl rfl) ?_
    refine Qa (y_move rfl) ?_
    refine qj_part 23 rfl (fun hg23 => ?_) (fun hg23 => ?_)
    ·first|(have f0 : ¬ m.to = x.id ∨ m.frm = x.id ∨ m.frm < 0 ∨ m.frm ≥ x.n := .inr (.inr (.inl (by simpa using hg23))))|skip
     refine Qk ?_
     refine Qk ?_
     refine Qk ?_
     refine Qk ?_
     refine Qk ?_
     refine Qk ?_
     refine Qk ?_
     refine Qa (y_pick_t rfl rfl) ?_
     refine qj_nil ?_
     refine hK2 _ _ _ ?_
     refine cj_cond_t rfl ?_
     refine cj_ret ?_
     refine hret _ _ _ ?_
     refine Ea Tryz.results38 .nil (ndL b v x D) (by first | exact Hp.le_refl _ | assumption) ?_
     rw [show receiveN (x, D) m = (true, (x, D)) by unfold receiveN; rw [if_pos f0]]; exact ⟨rfl, v, hv, rfl⟩
    ·first|(have f3 : ¬ m.frm < 0 := by simpa using hg23)|skip
     refine Qb (Ga Tryz.underlying48 Tryz.sizeOf3) ?_
     first | refine Qb (La o3) ?_ | refine Qb (Ls o3) ?_
     first | refine Qb (La o30) ?_ | refine Qb (Ls o30) ?_
     refine Qb (y_nilCheck rfl) ?_
     refine Qb (Ga Tryz.underlying81 Tryz.sizeOf3) ?_
     first | refine Qb (La o3) ?_ | refine Qb (Ls o3) ?_
     refine Qb (y_geq rfl rfl) ?_
     refine Qa (y_pick_f rfl rfl) ?_
     refine qj_nil ?_
     refine hK2 _ _ _ ?_
     refine cj_env (eL 0 rfl (eL 1 rfl (eL 31 rfl eN))) ?_
     refine cj_cond rfl (fun hc31 => ?_) (fun hc31 => ?_)
     ·first|(have f0 : ¬ m.to = x.id ∨ m.frm = x.id ∨ m.frm < 0 ∨ m.frm ≥ x.n := .inr (.inr (.inr (by simpa using hc31))))|skip
      refine cj_ret ?_
      refine hret _ _ _ ?_
      refine Ea Tryz.results38 .nil (ndL b v x D) (by first | exact Hp.le_refl _ | assumption) ?_
      rw [show receiveN (x, D) m = (true, (x, D)) by unfold receiveN; rw [if_pos f0]]; exact ⟨rfl, v, hv, rfl⟩
     ·have f4 : ¬ m.frm ≥ x.n := by (try simp at hc31); omega
      have f0 : ¬ (¬ m.to = x.id ∨ m.frm = x.id ∨ m.frm < 0 ∨ m.frm ≥ x.n) := by omega
      have hfr : 0 ≤ m.frm ∧ m.frm < x.n := by omega
      refine cj_skip ?_
      refine hK1 _ _ _ ?_
      refine cj_seq fun K4 hK4 => ?_
      have hJ4 : ∀ (x9 : ND × NV × DK × Hp), NIn (k + 1) x9.1 ∧ NOk x9.2.2.2 x9.2.1 x9.1 ∧ R.le x9.2.2.2 ∧ receiveN (x, D) m = kindN (x9.1, x9.2.2.1) m ∧ x9.1.n = x.n ∧ x9.2.2.1.ok (n + 44) → EJ ⟨Tryz.prog, 78, σ⟩ K4 [(0, .pointer (some ⟨bM, 0, none⟩)), (1, .pointer (some ⟨bX, 0, none⟩))] x9.2.2.2 (blk bX [.pointer (some ⟨b.x, 0, none⟩)] 30 :: blk bM (msgC m ve) 48 :: ndB b x9.2.1 x9.1 :: lgN b x9.2.1 x9.1 :: dkB b.d x9.2.1.u x9.2.2.1 :: dkS x9.2.1.u x9.2.2.1 :: prA x9.2.1 x9.1 :: mpA x9.2.1.vm x9.1.votes :: outA x9.2.1 x9.1 :: F) := by
       rintro ⟨y, v2, D2, R2⟩ ⟨hy, hv2, hR2, hF, hyn, hD2⟩
       try dsimp only
       dsimp only at hy hv2 hR2 hF hyn hD2
       have hmy : MIn (k + 1) y.n m := hm.to (by rw [hyn]; exact hfr) (by omega)
       have hve2 := hve.mono hR2
       refine hK4 _ _ _ ?_
       refine cj_seq fun K5 hK5 => ?_
       refine cj_region ?_
       refine Pa (Ga Tryz.underlying48 Tryz.sizeOf3) ?_
       first | refine Pa (La o3) ?_ | refine Pa (Ls o3) ?_
       refine rj_nil ?_
       refine hK5 _ _ _ ?_
       refine cj_block ?_
       refine cj_seq fun K6 hK6 => ?_
       refine cj_region ?_
       refine Pa (y_eql rfl rfl) ?_
       refine Ps ?_
       refine rj_nil ?_
       refine hK6 _ _ _ ?_
       refine cj_cond rfl (fun hc57 => ?_) (fun hc57 => ?_)
       ·have e0 : m.kind = 0 := by simpa using hc57
        have hK : kindN (y, D2) m = askedN (y, D2) m := by unfold kindN; rw [if_pos e0]
        refine cj_region ?_
        first | refine Pa (La o30) ?_ | refine Pa (Ls o30) ?_
        refine Pa ((Lm (vs := msgC m ve) m48)) ?_
        refine rj_call (wn0 rfl) rfl Tryz.call41 rfl (asked_t b v2 y D2 m ve (k + 1) (n + 44) (by omega) hy hv2 hmy hve2 hD2 (by omega)) sp_ (fun ch Rp Lp hRp hpp => ?_) ?_
        · obtain ⟨hG, rfl, v3, hv3, rfl⟩ := hpp
          try simp only [cA, nA]
          refine hpan _ _ _ _ ?_
          refine ej_pan _ (ndL b v3 (askedN (y, D2) m).2.1 (askedN (y, D2) m).2.2) (by first | exact Hp.le_refl _ | assumption | exact Hp.le_trans ‹_› ‹_› | exact Hp.le_trans hR2 hRp) rfl sb_ ?_
          exact ⟨by rw [hF, hK]; exact hG, rfl, v3, by rw [hF, hK]; exact hv3, by rw [hF, hK]⟩
        rintro r R8 L' hR8 ⟨hG, v3, hv3, rfl⟩
        have hR28 := Hp.le_trans hR2 hR8
        try simp only [cA, nA]
        refine rj_nil ?_
        refine hend _ _ _ ?_
        apply ej_end Tryz.results38 .nil _ (ndL b v3 (askedN (y, D2) m).2.1 (askedN (y, D2) m).2.2) (by first | exact Hp.le_refl _ | assumption) rfl
        case hp => rw [hF, hK]; exact ⟨hG, v3, hv3, rfl⟩
        case hS => exact sb_
       ·have e0 : ¬ m.kind = 0 := by simpa using hc57
        refine cj_seq fun K8 hK8 => ?_
        refine cj_region ?_
        refine Pa (y_eql rfl rfl) ?_
        refine Ps ?_
        refine rj_nil ?_
        refine hK8 _ _ _ ?_
        refine cj_cond rfl (fun hc62 => ?_) (fun hc62 => ?_)
        ·have e1 : m.kind = 1 := by simpa using hc62
         have hK : kindN (y, D2) m = votedN (y, D2) m := by unfold kindN; rw [if_neg e0, if_pos e1]
         refine cj_region ?_
         first | refine Pa (La o30) ?_ | refine Pa (Ls o30) ?_
         refine Pa ((Lm (vs := msgC m ve) m48)) ?_
         refine rj_call (wn0 rfl) rfl Tryz.call42 rfl (voted_t b v2 y D2 m ve (k + 1) (n + 44) (by omega) hy hv2 hmy hve2 hD2 (by omega)) sp_ (fun ch Rp Lp hRp hpp => ?_) ?_
         · obtain ⟨hG, rfl, v3, hv3, rfl⟩ := hpp
           try simp only [cA, nA]
           refine hpan _ _ _ _ ?_
           refine ej_pan _ (ndL b v3 (votedN (y, D2) m).2.1 (votedN (y, D2) m).2.2) (by first | exact Hp.le_refl _ | assumption | exact Hp.le_trans ‹_› ‹_› | exact Hp.le_trans hR2 hRp) rfl sb_ ?_
           exact ⟨by rw [hF, hK]; exact hG, rfl, v3, by rw [hF, hK]; exact hv3, by rw [hF, hK]⟩
         rintro r R8 L' hR8 ⟨hG, v3, hv3, rfl⟩
         have hR28 := Hp.le_trans hR2 hR8
         try simp only [cA, nA]
         refine rj_nil ?_
         refine hend _ _ _ ?_
         apply ej_end Tryz.results38 .nil _ (ndL b v3 (votedN (y, D2) m).2.1 (votedN (y, D2) m).2.2) (by first | exact Hp.le_refl _ | assumption) rfl
         case hp => rw [hF, hK]; exact ⟨hG, v3, hv3, rfl⟩
         case hS => exact sb_
        ·have e1 : ¬ m.kind = 1 := by simpa using hc62
         refine cj_seq fun K10 hK10 => ?_
         refine cj_seq fun K11 hK11 => ?_
         refine cj_region ?_
         refine Pa (y_eql rfl rfl) ?_
         refine Ps ?_
         refine rj_nil ?_
         refine hK11 _ _ _ ?_
         refine cj_cond rfl (fun hc67 => ?_) (fun hc67 => ?_)
         ·first|(have e6 : m.kind = 2 := by simpa using hc67)|(have e7 : m.kind = 4 := by simpa using hc67)|skip
          first|(have e2 : m.kind = 2 ∨ m.kind = 4 := .inl (by simpa using hc67))|(have e2 : m.kind = 2 ∨ m.kind = 4 := .inr (by simpa using hc67))|skip
          first|(have hK : kindN (y, D2) m = fedN (y, D2) m := by unfold kindN; rw [if_neg e0, if_neg e1, if_pos e2])|skip
          refine cj_skip ?_
          refine hK10 _ _ _ ?_
          refine cj_cond rfl (fun hc67 => ?_) (fun hc67 => ?_)
          ·first|(have e6 : m.kind = 2 := by simpa using hc67)|(have e7 : m.kind = 4 := by simpa using hc67)|skip
           first|(have e2 : m.kind = 2 ∨ m.kind = 4 := .inl (by simpa using hc67))|(have e2 : m.kind = 2 ∨ m.kind = 4 := .inr (by simpa using hc67))|skip
           first|(have hK : kindN (y, D2) m = fedN (y, D2) m := by unfold kindN; rw [if_neg e0, if_neg e1, if_pos e2])|skip
           refine cj_region ?_
           first | refine Pa (La o30) ?_ | refine Pa (Ls o30) ?_
           refine Pa ((Lm (vs := msgC m ve) m48)) ?_
           refine rj_call (wn0 rfl) rfl Tryz.call43 rfl (fed_t b v2 y D2 m ve (k + 1) (n + 44) (by omega) hy hv2 hmy hve2 hD2 (by omega)) sp_ (fun ch Rp Lp hRp hpp => ?_) ?_
           · obtain ⟨hG, rfl, v3, hv3, rfl⟩ := hpp
             try simp only [cA, nA]
             refine hpan _ _ _ _ ?_
             refine ej_pan _ (ndL b v3 (fedN (y, D2) m).2.1 (fedN (y, D2) m).2.2) (by first | exact Hp.le_refl _ | assumption | exact Hp.le_trans ‹_› ‹_› | exact Hp.le_trans hR2 hRp) rfl sb_ ?_
             exact ⟨by rw [hF, hK]; exact hG, rfl, v3, by rw [hF, hK]; exact hv3, by rw [hF, hK]⟩
           rintro r R8 L' hR8 ⟨hG, v3, hv3, rfl⟩
           have hR28 := Hp.le_trans hR2 hR8
           try simp only [cA, nA]
           refine rj_nil ?_
           refine hend _ _ _ ?_
           apply ej_end Tryz.results38 .nil _ (ndL b v3 (fedN (y, D2) m).2.1 (fedN (y, D2) m).2.2) (by first | exact Hp.le_refl _ | assumption) rfl
           case hp => rw [hF, hK]; exact ⟨hG, v3, hv3, rfl⟩
           case hS => exact sb_
          ·first|(have e3 : ¬ m.kind = 2 := by simpa using hc67)|(have e4 : ¬ m.kind = 4 := by simpa using hc67)|skip
           refine cj_seq fun K14 hK14 => ?_
           refine cj_region ?_
           refine Pa (y_eql rfl rfl) ?_
           refine Ps ?_
           refine rj_nil ?_
           refine hK14 _ _ _ ?_
           refine cj_cond rfl (fun hc73 => ?_) (fun hc73 => ?_)
           ·have e5 : m.kind = 3 := by simpa using hc73
            have hK : kindN (y, D2) m = heardN (y, D2) m := by unfold kindN; rw [if_neg e0, if_neg e1, if_neg (fun h => by omega), if_pos e5]
            refine cj_region ?_
            first | refine Pa (La o30) ?_ | refine Pa (Ls o30) ?_
            refine Pa ((Lm (vs := msgC m ve) m48)) ?_
            refine rj_call (wn0 rfl) rfl Tryz.call44 rfl (heard_t b v2 y D2 m ve (k + 1) (by omega) hy hv2 hmy hve2) sp_ (fun ch Rp Lp hRp hpp => ?_) ?_
            · obtain ⟨hG, rfl, v3, hv3, rfl⟩ := hpp
              try simp only [cA, nA]
              refine hpan _ _ _ _ ?_
              refine ej_pan _ (ndL b v3 (heardN (y, D2) m).2.1 (heardN (y, D2) m).2.2) (by first | exact Hp.le_refl _ | assumption | exact Hp.le_trans ‹_› ‹_› | exact Hp.le_trans hR2 hRp) rfl sb_ ?_
              exact ⟨by rw [hF, hK]; exact hG, rfl, v3, by rw [hF, hK]; exact hv3, by rw [hF, hK]⟩
            rintro r R8 L' hR8 ⟨hG, v3, hv3, rfl⟩
            have hR28 := Hp.le_trans hR2 hR8
            try simp only [cA, nA]
            refine rj_nil ?_
            refine hend _ _ _ ?_
            apply ej_end Tryz.results38 .nil _ (ndL b v3 (heardN (y, D2) m).2.1 (heardN (y, D2) m).2.2) (by first | exact Hp.le_refl _ | assumption) rfl
            case hp => rw [hF, hK]; exact ⟨hG, v3, hv3, rfl⟩
            case hS => exact sb_
           ·have e5 : ¬ m.kind = 3 := by simpa using hc73
            have hK : kindN (y, D2) m = (true, (y, D2)) := by unfold kindN; rw [if_neg e0, if_neg e1, if_neg (fun h => by omega), if_neg e5]
            refine cj_skip ?_
            refine hend _ _ _ ?_
            apply ej_end Tryz.results38 .nil _ (ndL b v2 y D2) (by first | exact Hp.le_refl _ | assumption) rfl
            case hp => rw [hF, hK]; exact ⟨rfl, v2, hv2, rfl⟩
            case hS => exact sb_
         ·first|(have e3 : ¬ m.kind = 2 := by simpa using hc67)|(have e4 : ¬ m.kind = 4 := by simpa using hc67)|skip
          refine cj_region ?_
          refine Pa (y_eql rfl rfl) ?_
          refine Ps ?_
          refine rj_nil ?_
          refine hK10 _ _ _ ?_
          refine cj_env (eL 0 rfl (eL 1 rfl (eL 56 rfl (eL 67 rfl eN)))) ?_
          refine cj_cond rfl (fun hc67 => ?_) (fun hc67 => ?_)
          ·first|(have e6 : m.kind = 2 := by simpa using hc67)|(have e7 : m.kind = 4 := by simpa using hc67)|skip
           first|(have e2 : m.kind = 2 ∨ m.kind = 4 := .inl (by simpa using hc67))|(have e2 : m.kind = 2 ∨ m.kind = 4 := .inr (by simpa using hc67))|skip
           first|(have hK : kindN (y, D2) m = fedN (y, D2) m := by unfold kindN; rw [if_neg e0, if_neg e1, if_pos e2])|skip
           refine cj_region ?_
           first | refine Pa (La o30) ?_ | refine Pa (Ls o30) ?_
           refine Pa ((Lm (vs := msgC m ve) m48)) ?_
           refine rj_call (wn0 rfl) rfl Tryz.call43 rfl (fed_t b v2 y D2 m ve (k + 1) (n + 44) (by omega) hy hv2 hmy hve2 hD2 (by omega)) sp_ (fun ch Rp Lp hRp hpp => ?_) ?_
           · obtain ⟨hG, rfl, v3, hv3, rfl⟩ := hpp
             try simp only [cA, nA]
             refine hpan _ _ _ _ ?_
             refine ej_pan _ (ndL b v3 (fedN (y, D2) m).2.1 (fedN (y, D2) m).2.2) (by first | exact Hp.le_refl _ | assumption | exact Hp.le_trans ‹_› ‹_› | exact Hp.le_trans hR2 hRp) rfl sb_ ?_
             exact ⟨by rw [hF, hK]; exact hG, rfl, v3, by rw [hF, hK]; exact hv3, by rw [hF, hK]⟩
           rintro r R8 L' hR8 ⟨hG, v3, hv3, rfl⟩
           have hR28 := Hp.le_trans hR2 hR8
           try simp only [cA, nA]
           refine rj_nil ?_
           refine hend _ _ _ ?_
           apply ej_end Tryz.results38 .nil _ (ndL b v3 (fedN (y, D2) m).2.1 (fedN (y, D2) m).2.2) (by first | exact Hp.le_refl _ | assumption) rfl
           case hp => rw [hF, hK]; exact ⟨hG, v3, hv3, rfl⟩
           case hS => exact sb_
          ·first|(have e3 : ¬ m.kind = 2 := by simpa using hc67)|(have e4 : ¬ m.kind = 4 := by simpa using hc67)|skip
           refine cj_seq fun K17 hK17 => ?_
           refine cj_region ?_
           refine Pa (y_eql rfl rfl) ?_
           refine Ps ?_
           refine rj_nil ?_
           refine hK17 _ _ _ ?_
           refine cj_cond rfl (fun hc73 => ?_) (fun hc73 => ?_)
           ·have e5 : m.kind = 3 := by simpa using hc73
            have hK : kindN (y, D2) m = heardN (y, D2) m := by unfold kindN; rw [if_neg e0, if_neg e1, if_neg (fun h => by omega), if_pos e5]
            refine cj_region ?_
            first | refine Pa (La o30) ?_ | refine Pa (Ls o30) ?_
            refine Pa ((Lm (vs := msgC m ve) m48)) ?_
            refine rj_call (wn0 rfl) rfl Tryz.call44 rfl (heard_t b v2 y D2 m ve (k + 1) (by omega) hy hv2 hmy hve2) sp_ (fun ch Rp Lp hRp hpp => ?_) ?_
            · obtain ⟨hG, rfl, v3, hv3, rfl⟩ := hpp
              try simp only [cA, nA]
              refine hpan _ _ _ _ ?_
              refine ej_pan _ (ndL b v3 (heardN (y, D2) m).2.1 (heardN (y, D2) m).2.2) (by first | exact Hp.le_refl _ | assumption | exact Hp.le_trans ‹_› ‹_› | exact Hp.le_trans hR2 hRp) rfl sb_ ?_
              exact ⟨by rw [hF, hK]; exact hG, rfl, v3, by rw [hF, hK]; exact hv3, by rw [hF, hK]⟩
            rintro r R8 L' hR8 ⟨hG, v3, hv3, rfl⟩
            have hR28 := Hp.le_trans hR2 hR8
            try simp only [cA, nA]
            refine rj_nil ?_
            refine hend _ _ _ ?_
            apply ej_end Tryz.results38 .nil _ (ndL b v3 (heardN (y, D2) m).2.1 (heardN (y, D2) m).2.2) (by first | exact Hp.le_refl _ | assumption) rfl
            case hp => rw [hF, hK]; exact ⟨hG, v3, hv3, rfl⟩
            case hS => exact sb_
           ·have e5 : ¬ m.kind = 3 := by simpa using hc73
            have hK : kindN (y, D2) m = (true, (y, D2)) := by unfold kindN; rw [if_neg e0, if_neg e1, if_neg (fun h => by omega), if_neg e5]
            refine cj_skip ?_
            refine hend _ _ _ ?_
            apply ej_end Tryz.results38 .nil _ (ndL b v2 y D2) (by first | exact Hp.le_refl _ | assumption) rfl
            case hp => rw [hF, hK]; exact ⟨rfl, v2, hv2, rfl⟩
            case hS => exact sb_
      refine cj_seq fun K19 hK19 => ?_
      refine cj_draw (by kernel_rfl) (by kernel_rfl) ?_
      refine Qa (Ga Tryz.underlying48 Tryz.sizeOf31) ?_
      first | refine Qa (La o31) ?_ | refine Qa (Ls o31) ?_
      first | refine Qa (La o30) ?_ | refine Qa (Ls o30) ?_
      refine Qa (y_nilCheck rfl) ?_
      refine Qa (Ga Tryz.underlying81 Tryz.sizeOf44) ?_
      first | refine Qa (La o44) ?_ | refine Qa (Ls o44) ?_
      refine Qa (Ca Tryz.call13 (lgTerm_q b.l (some ⟨b.d, 0, none⟩) v.va x.g)) ?_
      refine Qa (y_gtr rfl rfl) ?_
      refine qj_nil ?_
      refine hK19 _ _ _ ?_
      refine cj_cond rfl (fun hc39 => ?_) (fun hc39 => ?_)
      ·have f5 : m.term > x.g.term := by (try simp at hc39); omega
       obtain ⟨ra, hra⟩ : ∃ r, r = x.g.setTermD D m.term (-1) := ⟨_, rfl⟩
       have hN : receiveN (x, D) m = bindN (mustN (x, D) ra) fun s => kindN (s.1.newTerm, s.2) m := by unfold receiveN; rw [if_neg f0, if_pos f5, hra]
       refine cj_seq fun K21 hK21 => ?_
       refine cj_mixg (L := [blk bX [.pointer (some ⟨b.x, 0, none⟩)] 30, blk bM (msgC m ve) 48, ndB b v x]) [0, 1, 2, 3, 4, 5, 6] [7] [8] _ sb_ (by kernel_rfl) (by kernel_rfl) (by kernel_rfl) rfl ?_
       first | refine Wa rfl (fun R1 hR1 G => (La o30)) ?_ | refine Wa rfl (fun R1 hR1 G => (Ls o30)) ?_
       first | refine Wa rfl (fun R1 hR1 G => (La o30)) ?_ | refine Wa rfl (fun R1 hR1 G => (Ls o30)) ?_
       refine Wa rfl (fun R1 hR1 G => (y_nilCheck rfl)) ?_
       refine Wa rfl (fun R1 hR1 G => (Ga Tryz.underlying81 Tryz.sizeOf44)) ?_
       first | refine Wa rfl (fun R1 hR1 G => (La o44)) ?_ | refine Wa rfl (fun R1 hR1 G => (Ls o44)) ?_
       refine Wa rfl (fun R1 hR1 G => (Ga Tryz.underlying48 Tryz.sizeOf31)) ?_
       first | refine Wa rfl (fun R1 hR1 G => (La o31)) ?_ | refine Wa rfl (fun R1 hR1 G => (Ls o31)) ?_
       refine fj_nil ?_
       refine xj_rj rfl ?_
       try simp only [cA, nA, List.append_nil]
       refine Ra Tryz.call40 (lgSetTerm_t b.l b.d v.va v.u x.g D n m.term (-1) hg (by unfold u64B; omega) (by omega) (by omega) hv.va.one hD (by omega)) ?_
       rintro r R4 L' hR4 ⟨rfl, u2, rfl⟩
       rw [← hra]
       have hall : ra.2.1.all = x.g.all := by rw [hra]; exact setD_all
       have hDk : ra.2.2.ok (n + 44) := by rw [hra]; exact setD_dk hD (by unfold u64B; omega) (by omega)
       try simp only [cA, nA]
       refine rj_xk le_ sb_ ?_
       refine xj_nil ?_
       try simp only [cA, nA, List.append_nil]
       refine rj_call (wn0 rfl) rfl Tryz.call39 rfl (must_t b (v.logd u2 v.va) x _) sp_ (fun ch Rp Lp hRp hpp => ?_) ?_
       · obtain ⟨he1, rfl, rfl⟩ := hpp
         try simp only [cA, nA]
         refine hpan _ _ _ _ ?_
         refine ej_pan _ (ndL b (v.logd u2 v.va) { x with g := ra.2.1, down := true } ra.2.2) (by first | exact Hp.le_refl _ | assumption | exact Hp.le_trans ‹_› ‹_› | exact Hp.le_trans hR4 hRp) rfl sb_ ?_
         exact ⟨by rw [hN]; simp [bindN, mustN, he1], rfl, v.logd u2 v.va, by rw [hN]; simp only [bindN, mustN, if_neg he1]; exact hv.logd (y := { x with g := ra.2.1, down := true }) (Hp.le_trans hR4 hRp) ⟨rfl, rfl⟩ (by show FrX entE Rp ra.2.1.all v.va; rw [hall]; exact hv.va.mono (Hp.le_trans hR4 hRp)), by rw [hN]; simp [bindN, mustN, he1]⟩
       rintro r R5 L' hR5 ⟨he0, rfl⟩
       have hx1 : NIn (k + 1) (ND.newTerm { x with g := ra.2.1 }) := by rw [hra, setD_ok (by rw [← hra]; exact he0)]; exact (hx.set (t := m.term) (vt := -1) (by omega) (by omega)).newTerm
       have hR45 := Hp.le_trans hR4 hR5
       have hv1 : NOk R5 (v.logd u2 v.va) (ND.newTerm { x with g := ra.2.1 }) := NOk.newTerm (hv.logd (y := { x with g := ra.2.1 }) hR45 ⟨rfl, rfl⟩ (by show FrX entE R5 ra.2.1.all v.va; rw [hall]; exact hv.va.mono hR45))
       try simp only [cA, nA]
       refine rj_nil ?_
       refine hK21 _ _ _ ?_
       refine cj_env (eL 0 rfl (eL 1 rfl eN)) ?_
       refine cj_region ?_
       first | refine Pa (La o30) ?_ | refine Pa (Ls o30) ?_
       first | refine Pa (La o30) ?_ | refine Pa (Ls o30) ?_
       refine Pa (y_nilCheck rfl) ?_
       refine Pa (Ga Tryz.underlying81 Tryz.sizeOf3) ?_
       refine Sa o3 ?_
       refine Pa (y_nilCheck rfl) ?_
       refine Pa (Ga Tryz.underlying81 Tryz.sizeOf3) ?_
       refine Sa o3 ?_
       refine rj_nil ?_
       refine ej_join hJ4 ((ND.newTerm { x with g := ra.2.1 }, v.logd u2 v.va, ra.2.2, R5)) (⟨hx1, hv1, hR45, by rw [hN]; simp [bindN, mustN, he0], rfl, hDk⟩) (eC rfl (eC rfl eN)) rfl sb_
      ·have f5 : ¬ m.term > x.g.term := by (try simp at hc39); omega
       have hN : receiveN (x, D) m = kindN (x, D) m := by unfold receiveN; rw [if_neg f0, if_neg f5]
       refine cj_skip ?_
       refine ej_join hJ4 ((x, v, D, R)) (⟨hx.le (by omega), hv, Hp.le_refl _, hN, rfl, DK.ok_le hD (by omega)⟩) (eC rfl (eC rfl eN)) rfl sb_
theorem propose1_t {R : Hp} (b : NB) (v : NV) (x : ND) (D : DK) (cmd : Bs) (k n bX bC : Nat) (hk : k ≤ 40) (hx : NIn k x) (hv : NOk R v x) (hr : x.role = 2) (hc : cmd.length ≤ 100) (hD : D.ok n) (hn : n ≤ 700000000) :
    Tri Tryz.prog 52 [.pointer (some ⟨bX, 0, none⟩), .pointer (some ⟨bC, 0, none⟩)] R (blk bX [.pointer (some ⟨b.x, 0, none⟩)] 30 :: blk bC [.string (str cmd)] 9 :: ndL b v x D) (fun r R' L' => (entryN (x, D) cmd).1 = true ∧ ∃ v', NOk R' v' (entryN (x, D) cmd).2.1 ∧ L' = ndL b v' (entryN (x, D) cmd).2.1 (entryN (x, D) cmd).2.2 ++ [blk bX [.pointer (some ⟨b.x, 0, none⟩)] 30, blk bC [.string (str cmd)] 9]) (fun ch R' L' => (entryN (x, D) cmd).1 = false ∧ ch = [lostE] ∧ ∃ v', NOk R' v' (entryN (x, D) cmd).2.1 ∧ L' = ndL b v' (entryN (x, D) cmd).2.1 (entryN (x, D) cmd).2.2 ++ [blk bX [.pointer (some ⟨b.x, 0, none⟩)] 30, blk bC [.string (str cmd)] 9]) := by
  refine tri_of Tryz.func52 rfl Tryz.ntmps52 rfl (fun σ F Q hret hend hpan => ?_)
  try simp only [cA, nA]
  refine cj_region ?_
  first | refine Pa (La o30) ?_ | refine Pa (Ls o30) ?_
  first | refine Pa (La o9) ?_ | refine Pa (Ls o9) ?_
  refine rj_call (wn0 rfl) rfl Tryz.call53 rfl (entry_t b v x D cmd k n (by omega) hx hv (hx.peers hr) hc hD (by omega)) sp_ (fun ch Rp Lp hRp hpp => ?_) ?_
  · obtain ⟨hF, rfl, v2, hv2, rfl⟩ := hpp
    try simp only [cA, nA]
    refine hpan _ _ _ _ ?_
    refine ej_pan _ (ndL b v2 (entryN (x, D) cmd).2.1 (entryN (x, D) cmd).2.2 ++ [blk bX [.pointer (some ⟨b.x, 0, none⟩)] 30, blk bC [.string (str cmd)] 9]) (by first | exact Hp.le_refl _ | assumption | exact Hp.le_trans ‹_› ‹_›) rfl sb_ ?_
    exact ⟨hF, rfl, v2, hv2, rfl⟩
  rintro r R8 L' hR8 ⟨hF, v2, hv2, rfl⟩
  try simp only [cA, nA]
  refine rj_nil ?_
  refine hend _ _ _ ?_
  apply ej_end Tryz.results52 .nil _ (ndL b v2 (entryN (x, D) cmd).2.1 (entryN (x, D) cmd).2.2 ++ [blk bX [.pointer (some ⟨b.x, 0, none⟩)] 30, blk bC [.string (str cmd)] 9]) hR8 rfl
  case hp => exact ⟨hF, v2, hv2, rfl⟩
  case hS => exact sb_
end V
end Go.Proofs.YtjdbigplednihaaGreat
set_option linter.unusedSimpArgs false
set_option linter.unusedVariables false
set_option maxRecDepth 100000
namespace Go.Proofs.YtjdbigplednihaaGreat
open Go.RowKit
namespace V
set_option maxHeartbeats 4000000
section
variable {c : Cx} {E : Env} {R : Hp} {L : List Asn} {ty : TypeId} {p : String} {af : Array Edge} {g : Option (Nat × Bool)}
theorem y_ineq_nil {d : Option Tmp} {x y : Operand} {t t' u : TypeId} {v : Value} {ms : Array (String × TypeId)} (hT : c.P.underlying t = some (.interface ms)) (e1 : ev E x = some (.iface u v)) (e2 : ev E y = some .nilIface) :
    Yld c E R L ⟨d, .binOp .neq t x y t', ty, p, af, g⟩ (.bool true) := fun a w hf _ => by
  have h : ∀ d : Nat, (Op.equalIn (d + 1) t (.iface u v) .nilIface).run c.P w = .ok false w := fun d => by simp [Op.equalIn, run_underlying hT]
  have h1 : (Op.equalIn Op.maxDepth t (.iface u v) .nilIface).run c.P w = .ok false w := h (Op.maxDepth - 1)
  simp [execOp, hf.ev e1, hf.ev e2, eqGuard, binOp, Op.equal, h1, Oper.quietUpon]
theorem y_ineq_nil0 {d : Option Tmp} {x : Operand} {t t' : TypeId} {ms : Array (String × TypeId)} (hT : c.P.underlying t = some (.interface ms)) (e1 : ev E x = some .nilIface) :
    Yld c E R L ⟨d, .binOp .neq t x (.const .nilIface) t', ty, p, af, g⟩ (.bool false) := fun a w hf _ => by
  have h : ∀ d : Nat, (Op.equalIn (d + 1) t .nilIface .nilIface).run c.P w = .ok true w := fun d => by simp [Op.equalIn, run_underlying hT]
  have h1 : (Op.equalIn Op.maxDepth t .nilIface .nilIface).run c.P w = .ok true w := h (Op.maxDepth - 1)
  simp [execOp, hf.ev e1, hf.ev (x := .const .nilIface) rfl, eqGuard, binOp, Op.equal, h1, Oper.quietUpon]
theorem y_tassert {d : Option Tmp} {x : Operand} {t u : TypeId} {b : Bool} {v r : Value} (hr : ∀ w, (Instr.typeAssert v t u b).run c.P w = .ok r w) (e1 : ev E x = some v) :
    Yld c E R L ⟨d, .typeAssert x t u b, ty, p, af, g⟩ r := fun a w hf _ => by
  simp [execOp, hf.ev e1, hr w, Oper.quietUpon]
theorem cj_wp {x : Code} {Q : Exit → Act → World → Prop} {a : Act} {w : World} (h : CJ c x Q E R L) (hf : Fr c.n E a) (hs : Sat c.σ R L w) : x.wp c.P Q a w := h a w hf hs
end
theorem lost_yes {σ : World} {R : Hp} {L : List Asn} {w : World} (b4 : Nat) {v0 : Value} (hs : Sat σ R (blk b4 [v0] 28 :: L) w) :
    CallsD Tryz.prog 61 ⟨[.pointer (some ⟨b4, 0, none⟩)]⟩ (.panicking [lostE]) w
      (fun e u' w' => (∃ v, e = .returned v) ∧ settle u' = .returning ∧ Sat σ R (blk b4 [.slice none 0 0] 28 :: L) w') := by
  refine callsD_of_wpS Tryz.func61 rfl (fun c0 cs hu => ?_)
  rw [show Tryz.f61.ntmps = 15 from rfl]
  have hf0 := Fr.start (n := 15) (args := [.pointer (some ⟨b4, 0, none⟩)]) rfl
  generalize ({ tmps := _, defers := [] } : Act) = a at hf0 ⊢
  have hrec : recOf (c0 :: cs) = (.iface 113 (.agg ⟨[]⟩), { c0 with mode := .panicking [⟨.iface 113 (.agg ⟨[]⟩), true, false⟩] } :: cs) := by
    simp only [recOf, recoverD, hu, lostE]
  refine wpS_rec hf0 rfl rfl hrec (fun a1 hf1 => ?_)
  clear hf0
  refine wpS_of_wp ?_
  refine cj_wp (c := ⟨Tryz.prog, 15, σ⟩) ?_ hf1 hs
  refine cj_seq fun K1 hK1 => ?_
  refine cj_region ?_
  refine Pm ?_
  refine Pa ((y_ineq_nil Tryz.underlying20 rfl rfl)) ?_
  refine rj_nil ?_
  refine hK1 _ _ _ ?_
  refine cj_cond_t rfl ?_
  refine cj_seq fun K2 hK2 => ?_
  refine cj_seq fun K3 hK3 => ?_
  refine cj_region ?_
  refine Pm ?_
  refine Pa ((y_tassert (r := .tuple ⟨[.agg ⟨[]⟩, .bool true]⟩) (fun w => by kernel_rfl) rfl)) ?_
  refine Pm ?_
  refine Pa (y_extract rfl rfl) ?_
  refine Pa (y_extract rfl rfl) ?_
  refine rj_alloc (wn0 rfl) rfl Tryz.zeroValue113 rfl (fun b2 => ?_)
  refine Sm (vs := []) m113 (by simp) ?_
  refine Ps ?_
  refine rj_nil ?_
  refine hK3 _ _ _ ?_
  refine cj_seq fun K4 hK4 => ?_
  refine cj_region ?_
  refine Pm ?_
  refine Pa (y_not rfl) ?_
  refine rj_nil ?_
  refine hK4 _ _ _ ?_
  refine cj_cond_f rfl ?_
  refine cj_skip ?_
  refine hK2 _ _ _ ?_
  refine cj_region ?_
  refine Sa o28 ?_
  refine rj_nil ?_
  exact fun a w hf hs => ⟨hf.dfs, _, rfl, .tuple ⟨[]⟩, by unfold results; rw [Tryz.results61]; simp, ⟨_, rfl⟩, rfl, hs.sub sb_⟩
theorem lost_no {σ : World} {R : Hp} {L : List Asn} {w : World} (b4 : Nat) (hs : Sat σ R L w) :
    CallsD Tryz.prog 61 ⟨[.pointer (some ⟨b4, 0, none⟩)]⟩ .returning w
      (fun e u' w' => (∃ v, e = .returned v) ∧ settle u' = .returning ∧ Sat σ R L w') := by
  refine callsD_of_wpS Tryz.func61 rfl (fun c0 cs hu => ?_)
  rw [show Tryz.f61.ntmps = 15 from rfl]
  have hf0 := Fr.start (n := 15) (args := [.pointer (some ⟨b4, 0, none⟩)]) rfl
  generalize ({ tmps := _, defers := [] } : Act) = a at hf0 ⊢
  have hrec : recOf (c0 :: cs) = (.nilIface, c0 :: cs) := by
    simp only [recOf, recoverD, hu]
  have hc0 : c0 = { c0 with mode := .returning } := by rw [← hu]
  refine wpS_rec hf0 rfl rfl hrec (fun a1 hf1 => ?_)
  clear hf0
  refine wpS_of_wp ?_
  refine cj_wp (c := ⟨Tryz.prog, 15, σ⟩) ?_ hf1 hs
  refine cj_seq fun K1 hK1 => ?_
  refine cj_region ?_
  refine Pm ?_
  refine Pa ((y_ineq_nil0 Tryz.underlying20 rfl)) ?_
  refine rj_nil ?_
  refine hK1 _ _ _ ?_
  refine cj_cond_f rfl ?_
  refine cj_skip ?_
  exact fun a w hf hs => ⟨hf.dfs, .returning, by rw [← hc0], .tuple ⟨[]⟩, by unfold results; rw [Tryz.results61]; simp, ⟨_, rfl⟩, rfl, hs.sub sb_⟩
theorem run_no {n : Nat} {σ : World} {fn : Func} {R R0 : Hp} {F L' : List Asn} {E : Env} {post : Value → Hp → List Asn → Prop} (b4 : Nat) (v : Value) {a : Act} {w : World} (hr : fn.results = ⟨[.cell 4 28]⟩) (hR : R0.le R)
    (e4 : lk E 4 = some (.pointer (some ⟨b4, 0, none⟩))) (hf : Fr n E a) (hs : Sat σ R (blk b4 [v] 28 :: (L' ++ F)) w) (hp : post v R L') :
    tailQ Tryz.prog fn (EndR σ R0 F post (fun _ _ _ => False)) { target := .fn (.func 61) ⟨[.pointer (some ⟨b4, 0, none⟩)]⟩, args := #[] } .normal a w :=
  ⟨hf.dfs, leaves_onec (by simp) Tryz.call61 (lost_no b4 hs) (fun w' hs' => leaves_ret (c := ⟨Tryz.prog, n, σ⟩) hr (.cons (rv_cell o28 e4 (.head _) rfl) .nil) R L' hR rfl (.drop (.refl _)) hp hf hs')⟩
theorem run_yes {n : Nat} {σ : World} {fn : Func} {R R0 : Hp} {F L' : List Asn} {E : Env} {post : Value → Hp → List Asn → Prop} (b4 : Nat) {v0 : Value} {a : Act} {w : World} (hr : fn.results = ⟨[.cell 4 28]⟩) (hR : R0.le R)
    (e4 : lk E 4 = some (.pointer (some ⟨b4, 0, none⟩))) (hf : Fr n E a) (hs : Sat σ R (blk b4 [v0] 28 :: (L' ++ F)) w) (hp : post (.slice none 0 0) R L') :
    tailQ Tryz.prog fn (EndR σ R0 F post (fun _ _ _ => False)) { target := .fn (.func 61) ⟨[.pointer (some ⟨b4, 0, none⟩)]⟩, args := #[] } (.panic [lostE]) a w :=
  ⟨hf.dfs, leaves_onec (by simp) Tryz.call61 (lost_yes b4 hs) (fun w' hs' => leaves_ret (c := ⟨Tryz.prog, n, σ⟩) hr (.cons (rv_cell o28 e4 (.head _) rfl) .nil) R L' hR rfl (.drop (.refl _)) hp hf hs')⟩
theorem ej_rj {c : Cx} {ops : Array Oper} {Q Q2 : Exit → Act → World → Prop} {l : List Oper} {E : Env} {R : Hp} {L : List Asn} (h : RJ c ops Q l E R L) : EJ c (Exit.then (fun a w => wpList c.P ops Q l a w) Q2 .normal) E R L := h
theorem split_skip (A : Asn) (L F : List Asn) : Split (A :: (L ++ F)) L (A :: F) := by
  induction L with
  | nil => exact .nil _
  | cons B L ih => exact .cons (.tail (.head _)) ih
def runR (x : ND) (D : DK) (F : Bool × NS) : List Msg × NS := if downS (x, D) = true then ([], (x, D)) else if F.1 = true then (F.2.1.out, F.2) else ([], F.2)
theorem runN_eq (x : ND) (D : DK) (f : NS → Bool × NS) : runN (x, D) f = runR x D (f ({ x with out := [] }, D)) := rfl
@[reducible] def NDone (b : NB) (G : List Msg × NS) (r : Value) (R' : Hp) (L' : List Asn) : Prop := ∃ v', FrX msgE R' G.1 r ∧ NOk R' v' G.2.1 ∧ L' = ndI b v' G.2.1 G.2.2
theorem sub_pre (L : List Asn) {M N : List Asn} (h : Sub M N) : Sub (L ++ M) (L ++ N) := by
  induction L with
  | nil => exact h
  | cons A L ih => exact zP (.head _) ih
theorem sub_mid (A : Asn) (L F : List Asn) : Sub (L ++ A :: F) (A :: (L ++ F)) := zP (Find.mid A L F) (.refl _)
theorem rj_subA {c : Cx} {ops : Array Oper} {Q : Exit → Act → World → Prop} {l : List Oper} {E : Env} {R : Hp} {L M : List Asn} (hs : Sub L M) (h : RJ c ops Q l E R M) : RJ c ops Q l E R L := fun a w hf s => h a w hf (s.sub hs)
theorem run_t {R : Hp} (b : NB) (v : NV) (x : ND) (D : DK) (fk : FuncId) (caps : List Value) (Ex Ey : List Asn) (F0 : Bool × NS) (hc : ∀ args w, (callFunc fk args).run Tryz.prog w = .ok (.enter fk args) w) (hv : NOk R v x)
    (hf : ∀ v2, NOk R v2 { x with out := [] } → Tri Tryz.prog fk caps R (ndL b v2 { x with out := [] } D ++ Ex) (fun r R' L' => F0.1 = true ∧ ∃ v', NOk R' v' F0.2.1 ∧ L' = ndL b v' F0.2.1 F0.2.2 ++ Ey) (fun ch R' L' => F0.1 = false ∧ ch = [lostE] ∧ ∃ v', NOk R' v' F0.2.1 ∧ L' = ndL b v' F0.2.1 F0.2.2 ++ Ey)) (hE : ∀ F, Sub (Ex ++ F) (Ey ++ F)) :
    Tri Tryz.prog 32 [.pointer (some ⟨b.x, 0, none⟩), .func (.func fk) ⟨[]⟩ ⟨caps⟩] R (ndI b v x D ++ Ex) (fun r R' L' => ∃ v', FrX msgE R' (runR x D F0).1 r ∧ NOk R' v' (runR x D F0).2.1 ∧ L' = ndI b v' (runR x D F0).2.1 (runR x D F0).2.2 ++ Ey) := by
  have hvN : NOk R (v.sent (.slice none 0 0) []) { x with out := [] } := ⟨hv.va, Els.nil, hv.vm, hv.vp, rfl, hv.map⟩
  refine tri_of_d Tryz.func32 rfl Tryz.ntmps32 rfl (fun σ F Q hret hend hpan hQ => ?_)
  try simp only [cA, nA]
  refine cj_seq fun K1 hK1 => ?_
  refine cj_region ?_
  refine rj_alloc (wn0 rfl) rfl Tryz.zeroValue28 rfl (fun b4 => ?_)
  refine rj_nil ?_
  refine hK1 _ _ _ ?_
  refine cj_seq fun K2 hK2 => ?_
  refine cj_seq fun K3 hK3 => ?_
  refine cj_region ?_
  refine Pm ?_
  refine Pa (Ca Tryz.call26 (ndDown_q b v x D)) ?_
  refine rj_nil ?_
  refine hK3 _ _ _ ?_
  refine cj_cond rfl (fun hc6 => ?_) (fun hc6 => ?_)
  ·have f1 : downS (x, D) = true := hc6
   have hG : runR x D F0 = ([], (x, D)) := by unfold runR; rw [if_pos f1]
   refine cj_seq fun K5 hK5 => ?_
   refine cj_sub (M := blk b4 [.slice none 0 0] 28 :: (ndI b v x D ++ (Ey ++ F))) (zP fd_ (sub_pre (ndI b v x D) (hE F))) ?_
   try simp only [cA, nA]
   refine cj_region ?_
   refine Sa o28 ?_
   refine rj_nil ?_
   refine hK5 _ _ _ ?_
   refine cj_ret ?_
   refine hret _ _ _ ?_
   apply ej_ret Tryz.results32 (.cons (rv_cell o28 rfl fd_ rfl) .nil) _ (ndI b v x D ++ Ey) (Hp.le_refl _) rfl
   case hp => rw [hG]; exact ⟨v, FrX.nil, hv, rfl⟩
   case hS => exact sb_
  ·have f1 : ¬ downS (x, D) = true := by simpa using hc6
   refine cj_skip ?_
   refine hK2 _ _ _ ?_
   refine cj_seq fun K6 hK6 => ?_
   refine cj_region ?_
   refine Pm ?_
   refine Pa (y_nilCheck rfl) ?_
   refine Pa (Ga Tryz.underlying81 Tryz.sizeOf28) ?_
   refine Sa o28 ?_
   refine rj_nil ?_
   refine hK6 _ _ _ ?_
   refine cj_add (A := outA (v.sent (.slice none 0 0) []) { x with out := [] }) (slc_nil _ _) ?_
   refine cj_defer2 hQ rfl rfl ?_
   refine Pm ?_
   refine rj_callf (wn0 rfl) rfl rfl hc rfl (hf (v.sent (.slice none 0 0) []) hvN) (pre := ndL b (v.sent (.slice none 0 0) []) { x with out := [] } D ++ Ex) (F := blk b4 [.slice none 0 0] 28 :: F) ?_ ?_ ?_
   · exact .cons fd_ (.cons fd_ (.cons fd_ (.cons fd_ (.cons fd_ (.cons fd_ (.cons fd_ (split_skip _ _ _)))))))
   · rintro ch Rp Lp hRp ⟨hF1, rfl, v2, hv2, rfl⟩
     have hG : runR x D F0 = ([], F0.2) := by unfold runR; rw [if_neg f1, if_neg (by rw [hF1]; simp)]
     intro a w hf hs
     replace hs := hs.sub (sub_mid _ _ _)
     refine run_yes b4 Tryz.results32 hRp rfl hf (L' := ndI b v2 F0.2.1 F0.2.2 ++ Ey) (hs.sub sb_) ?_
     rw [hG]; exact ⟨v2, FrX.nil, hv2, rfl⟩
   · rintro r R' L' hR' ⟨hF1, v2, hv2, rfl⟩
     have hG : runR x D F0 = (F0.2.1.out, F0.2) := by unfold runR; rw [if_neg f1, if_pos hF1]
     refine rj_subA (sub_mid _ _ _) ?_
     try simp only [cA, nA]
     refine rj_nil ?_
     refine ej_rj ?_
     refine Pm ?_
     refine Pa (y_nilCheck rfl) ?_
     refine Pa (Ga Tryz.underlying81 Tryz.sizeOf28) ?_
     refine Pa (La o28) ?_
     refine rj_store o28 (wn0 rfl) rfl rfl hv2.vo fd_ rfl rfl ?_
     refine rj_freeze (e := 48) (sz := 10) (n := F0.2.1.out.length) (v := v2.vo) (xs := v2.css.flatten) fd_ (fun R9 hR9 hfr hxl => ?_)
     have hfx : FrX msgE R9 F0.2.1.out v2.vo := FrozenS.frx hfr (hv2.out.mono hR9)
     refine rj_nil ?_
     intro a w hf hs
     refine run_no b4 v2.vo Tryz.results32 (Hp.le_trans hR' hR9) rfl hf (L' := ndI b v2 F0.2.1 F0.2.2 ++ Ey) (hs.sub sb_) ?_
     rw [hG]; exact ⟨v2, hfx, hv2.mono hR9, rfl⟩
end V
end Go.Proofs.YtjdbigplednihaaGreat
set_option linter.unusedSimpArgs false
set_option linter.unusedVariables false
set_option maxRecDepth 100000
namespace Go.Proofs.YtjdbigplednihaaGreat
open Go.RowKit
namespace V
set_option maxHeartbeats 4000000
theorem Tri.pre {P : Program} {f : FuncId} {args : List Value} {R : Hp} {L L' : List Asn} {post : Value → Hp → List Asn → Prop} {pan : List PanicEntry → Hp → List Asn → Prop} (h : Tri P f args R L post pan) (hs : ∀ F, Sub (L' ++ F) (L ++ F)) : Tri P f args R L' post pan :=
  fun σ F w s => h σ F w (s.sub (hs F))
theorem NIn.out0 {k : Nat} {x : ND} (h : NIn k x) : NIn k { x with out := [] } :=
  ⟨h.idn, h.term, h.vote, h.base, h.baseT, h.state, h.alln, h.all, h.commit, h.patience, h.peers, h.peer, h.votes, by show 0 ≤ _; omega⟩
theorem tick_t {R : Hp} (b : NB) (v : NV) (x : ND) (D : DK) (k n : Nat) (hk : k ≤ 40) (hx : NIn k x) (hv : NOk R v x) (hD : D.ok n) (hn : n ≤ 700000000) :
    Tri Tryz.prog 9 [.pointer (some ⟨b.x, 0, none⟩)] R (ndI b v x D) (NDone b (runN (x, D) tickN)) := by
  rw [runN_eq]
  refine tri_of Tryz.func9 rfl Tryz.ntmps9 rfl (fun σ F Q hret hend hpan => ?_)
  try simp only [cA, nA]
  refine cj_seq fun K1 hK1 => cj_region ?_
  refine rj_box (wn0 rfl) rfl rfl rfl (fun bX => ?_)
  refine Ps ?_
  refine rj_nil (hK1 _ _ _ (cj_seq fun K2 hK2 => cj_region ?_))
  first | refine Pa (La o30) ?_ | refine Pa (Ls o30) ?_
  refine Pa (y_makeFunc rfl rfl) ?_
  refine Ra Tryz.call32 (run_t b v x D 33 [.pointer (some ⟨bX, 0, none⟩)] [blk bX [.pointer (some ⟨b.x, 0, none⟩)] 30] [] (tickN ({ x with out := [] }, D)) Tryz.call33 hv (fun v2 hv2 => Tri.pre (tick1_t b v2 { x with out := [] } D k n bX hk hx.out0 hv2 hD (by omega)) (fun F => by (repeat (first|exact zR _|(apply zP;focus (repeat (first|exact zH _|apply zT)))|apply zD|exact zA _ _)))) (fun F => by (repeat (first|exact zR _|(apply zP;focus (repeat (first|exact zH _|apply zT)))|apply zD|exact zA _ _)))) ?_
  rintro r R2 L' hR2 ⟨v2, hr, hv2, rfl⟩
  have hro := hr.one
  try simp only [cA, nA]
  refine Ps ?_
  refine rj_nil (hK2 _ _ _ (cj_ret (hret _ _ _ ?_)))
  apply ej_ret Tryz.results9 (.cons (rv_tmp rfl) .nil) _ (ndI b v2 _ _) hR2 rfl
  case hp => exact ⟨v2, hr, hv2, rfl⟩
  case hS => exact sb_
theorem receive_t {R : Hp} (b : NB) (v : NV) (x : ND) (D : DK) (m : Msg) (ve : Value) (k n : Nat) (hk : k ≤ 40) (hx : NIn k x) (hv : NOk R v x) (hm : MIm k m) (hve : FrX entE R m.es ve) (hD : D.ok n) (hn : n ≤ 700000000) :
    Tri Tryz.prog 11 [.pointer (some ⟨b.x, 0, none⟩), .agg ⟨msgC m ve⟩] R (ndI b v x D) (NDone b (runN (x, D) (fun s => receiveN s m))) := by
  rw [runN_eq]
  have hveo := hve.one
  refine tri_of Tryz.func11 rfl Tryz.ntmps11 rfl (fun σ F Q hret hend hpan => ?_)
  try simp only [cA, nA]
  refine cj_seq fun K1 hK1 => cj_region ?_
  refine rj_box (wn0 rfl) rfl rfl rfl (fun bX => ?_)
  refine rj_box (wn0 rfl) rfl rfl rfl (fun bM => ?_)
  refine Ps ?_
  refine rj_nil (hK1 _ _ _ (cj_seq fun K2 hK2 => cj_region ?_))
  first | refine Pa (La o30) ?_ | refine Pa (Ls o30) ?_
  refine Pa (y_makeFunc rfl rfl) ?_
  refine Ra Tryz.call32 (run_t b v x D 38 [.pointer (some ⟨bM, 0, none⟩), .pointer (some ⟨bX, 0, none⟩)] [blk bX [.pointer (some ⟨b.x, 0, none⟩)] 30, blk bM (msgC m ve) 48] [] (receiveN ({ x with out := [] }, D) m) Tryz.call38 hv (fun v2 hv2 => Tri.pre (receive1_t b v2 { x with out := [] } D m ve k n bX bM hk hx.out0 hv2 hm hve hD hn) (fun F => by (repeat (first|exact zR _|(apply zP;focus (repeat (first|exact zH _|apply zT)))|apply zD|exact zA _ _)))) (fun F => by (repeat (first|exact zR _|(apply zP;focus (repeat (first|exact zH _|apply zT)))|apply zD|exact zA _ _)))) ?_
  rintro r R2 L' hR2 ⟨v2, hr, hv2, rfl⟩
  have hro := hr.one
  try simp only [cA, nA]
  refine Ps ?_
  refine rj_nil (hK2 _ _ _ (cj_ret (hret _ _ _ ?_)))
  apply ej_ret Tryz.results11 (.cons (rv_tmp rfl) .nil) _ (ndI b v2 _ _) hR2 rfl
  case hp => exact ⟨v2, hr, hv2, rfl⟩
  case hS => exact sb_
theorem entry_in {k : Nat} (hk : k ≤ 90) {x : ND} {D : DK} {cmd : Bs} (hx : NIn k x) (hc : cmd.length ≤ 100) (h : (entryN (x, D) cmd).1 = true) : NIn (k + 2) (entryN (x, D) cmd).2.1 := by
  have hterm := hx.term
  unfold entryN bindN mustN at h ⊢
  dsimp only at h ⊢
  by_cases he : (x.g.addD D x.g.last [(x.g.term, cmd)]).1 = 0
  · simp only [if_pos he, ite_true] at h ⊢
    rw [addD_ok he, feedAll_eq]
    have h1 := hx.add (i := x.g.last) (m := [(x.g.term, cmd)]) (fun e he => by simp at he; subst he; exact ⟨⟨by omega, by omega⟩, hc⟩) (by simp)
    have h2 := NIn.count (by omega) h1
    refine h2.sends _ ?_
    rw [List.length_map]
    have h3 := h2.idn.2
    have h4 := othersL_le (ND.count { x with g := x.g.play (.add x.g.last [(x.g.term, cmd)]) }).id (ND.count { x with g := x.g.play (.add x.g.last [(x.g.term, cmd)]) }).n
    show (othersL _ _).length ≤ 20
    omega
  · simp only [if_neg he] at h
    simp at h
def proposeN (s : NS) (cmd : Bs) : (Int × Int × List Msg) × NS :=
  if ¬ s.1.role = 2 then ((0, 0, []), s) else if downS (runN s (fun s => entryN s cmd)).2 = true then ((0, 0, []), (runN s (fun s => entryN s cmd)).2)
  else (((runN s (fun s => entryN s cmd)).2.1.g.last, (runN s (fun s => entryN s cmd)).2.1.g.term, (runN s (fun s => entryN s cmd)).1), (runN s (fun s => entryN s cmd)).2)
theorem runIn {k : Nat} {x : ND} {D : DK} {f : NS → Bool × NS} (hf : (f ({ x with out := [] }, D)).1 = true → NIn k (f ({ x with out := [] }, D)).2.1) (hl : (f ({ x with out := [] }, D)).1 = false → (f ({ x with out := [] }, D)).2.1.down = true) (h : ¬ downS (runN (x, D) f).2 = true) : NIn k (runN (x, D) f).2.1 := by
  rw [runN_eq] at h ⊢
  unfold runR at h ⊢
  by_cases h1 : downS (x, D) = true
  · rw [if_pos h1] at h; exact absurd h1 h
  · rw [if_neg h1] at h ⊢
    by_cases h2 : (f ({ x with out := [] }, D)).1 = true
    · rw [if_pos h2]; exact hf h2
    · rw [if_neg h2] at h
      have := hl (by simpa using h2)
      exact absurd (by unfold downS; rw [this]; rfl) h
theorem must_down {s : NS} {r : Int × LG × DK} (h : (mustN s r).1 = false) : (mustN s r).2.1.down = true := by
  unfold mustN at h ⊢
  split at h
  · cases h
  · rename_i h1; rw [if_neg h1]
theorem bind_down {r : Bool × NS} {k : NS → Bool × NS} (hr : r.1 = false → r.2.1.down = true) (hk : r.1 = true → (k r.2).1 = false → (k r.2).2.1.down = true) (h : (bindN r k).1 = false) : (bindN r k).2.1.down = true := by
  unfold bindN at h ⊢
  by_cases h1 : r.1 = true
  · rw [if_pos h1] at h ⊢; exact hk h1 h
  · rw [if_neg h1] at h ⊢; exact hr h
theorem entry_down {s : NS} {cmd : Bs} (h : (entryN s cmd).1 = false) : (entryN s cmd).2.1.down = true :=
  bind_down must_down (fun _ h => by cases h) h
theorem propose_t {R : Hp} (b : NB) (v : NV) (x : ND) (D : DK) (cmd : Bs) (k n : Nat) (hk : k ≤ 40) (hx : NIn k x) (hv : NOk R v x) (hc : cmd.length ≤ 100) (hD : D.ok n) (hn : n ≤ 700000000) :
    Tri Tryz.prog 21 [.pointer (some ⟨b.x, 0, none⟩), .string (str cmd)] R (ndI b v x D)
      (fun r R' L' => ∃ vl v', r = tupOf [.int .u64 (proposeN (x, D) cmd).1.1, .int .u64 (proposeN (x, D) cmd).1.2.1, vl] ∧ FrX msgE R' (proposeN (x, D) cmd).1.2.2 vl ∧ NOk R' v' (proposeN (x, D) cmd).2.1 ∧ L' = ndI b v' (proposeN (x, D) cmd).2.1 (proposeN (x, D) cmd).2.2) := by
  obtain ⟨G, hG⟩ : ∃ G, G = runN (x, D) (fun s => entryN s cmd) := ⟨_, rfl⟩
  refine tri_of Tryz.func21 rfl Tryz.ntmps21 rfl (fun σ F Q hret hend hpan => ?_)
  try simp only [cA, nA]
  refine cj_seq fun K1 hK1 => cj_region ?_
  refine rj_box (wn0 rfl) rfl rfl rfl (fun bX => ?_)
  refine rj_box (wn0 rfl) rfl rfl rfl (fun bC => ?_)
  refine Ps ?_
  refine Ps ?_
  refine Ps ?_
  refine rj_nil (hK1 _ _ _ (cj_seq fun K2 hK2 => cj_seq fun K3 hK3 => cj_region ?_))
  first | refine Pa (La o30) ?_ | refine Pa (Ls o30) ?_
  refine Pa (Ca Tryz.call10 (ndRole_q b v x)) ?_
  refine Pa (y_neq rfl rfl) ?_
  refine rj_nil (hK3 _ _ _ ?_)
  refine cj_cond rfl (fun hc10 => ?_) (fun hc10 => ?_)
  have f1 : ¬ x.role = 2 := by simpa using hc10
  have hP : proposeN (x, D) cmd = ((0, 0, []), (x, D)) := by unfold proposeN; rw [if_pos f1]
  refine cj_seq fun K5 hK5 => cj_region ?_
  refine Ps ?_
  refine Ps ?_
  refine Ps ?_
  refine rj_nil (hK5 _ _ _ (cj_ret (hret _ _ _ ?_)))
  refine Ea Tryz.results21 (.cons (rv_tmp rfl) (.cons (rv_tmp rfl) (.cons (rv_tmp rfl) .nil))) (ndI b v x D) (by first | exact Hp.le_refl _ | assumption) ?_
  rw [hP]; exact ⟨_, v, rfl, FrX.nil, hv, rfl⟩
  have f1 : x.role = 2 := by simpa using hc10
  refine cj_skip (hK2 _ _ _ (cj_seq fun K6 hK6 => cj_region ?_))
  first | refine Pa (La o30) ?_ | refine Pa (Ls o30) ?_
  refine Pa (y_makeFunc rfl rfl) ?_
  refine Ra Tryz.call32 (run_t b v x D 52 [.pointer (some ⟨bX, 0, none⟩), .pointer (some ⟨bC, 0, none⟩)] [blk bX [.pointer (some ⟨b.x, 0, none⟩)] 30, blk bC [.string (str cmd)] 9] [blk bX [.pointer (some ⟨b.x, 0, none⟩)] 30, blk bC [.string (str cmd)] 9] (entryN ({ x with out := [] }, D) cmd) Tryz.call52 hv (fun v2 hv2 => Tri.pre (propose1_t b v2 { x with out := [] } D cmd k n bX bC hk hx.out0 hv2 f1 hc hD hn) (fun F => by (repeat (first|exact zR _|(apply zP;focus (repeat (first|exact zH _|apply zT)))|apply zD|exact zA _ _)))) (fun F => by (repeat (first|exact zR _|(apply zP;focus (repeat (first|exact zH _|apply zT)))|apply zD|exact zA _ _)))) ?_
  rintro r R2 L' hR2 ⟨v2, hr, hv2, rfl⟩
  have hro := hr.one
  have hGR : runR x D (entryN ({ x with out := [] }, D) cmd) = G := by rw [hG]; rfl
  rw [hGR] at hr hv2 ⊢
  try simp only [cA, nA]
  refine Ps ?_
  refine rj_nil (hK6 _ _ _ (cj_seq fun K7 hK7 => cj_seq fun K8 hK8 => cj_region ?_))
  first | refine Pa (La o30) ?_ | refine Pa (Ls o30) ?_
  refine Pa (Ca Tryz.call26 (ndDown_q b v2 G.2.1 G.2.2)) ?_
  refine rj_nil (hK8 _ _ _ ?_)
  refine cj_cond rfl (fun hc15 => ?_) (fun hc15 => ?_)
  have g1 : downS G.2 = true := hc15
  have hP : proposeN (x, D) cmd = ((0, 0, []), G.2) := by unfold proposeN; rw [if_neg (by simp [f1]), ← hG, if_pos g1]
  refine cj_seq fun K10 hK10 => cj_region ?_
  refine Ps ?_
  refine Ps ?_
  refine Ps ?_
  refine rj_nil (hK10 _ _ _ (cj_ret (hret _ _ _ ?_)))
  refine Ea Tryz.results21 (.cons (rv_tmp rfl) (.cons (rv_tmp rfl) (.cons (rv_tmp rfl) .nil))) (ndI b v2 G.2.1 G.2.2) (by first | exact Hp.le_refl _ | assumption) ?_
  rw [hP]; exact ⟨_, v2, rfl, FrX.nil, hv2, rfl⟩
  have g1 : ¬ downS G.2 = true := by simpa using hc15
  have hP : proposeN (x, D) cmd = ((G.2.1.g.last, G.2.1.g.term, G.1), G.2) := by unfold proposeN; rw [if_neg (by simp [f1]), ← hG, if_neg g1]
  have hGi : NIn (k + 2) G.2.1 := by rw [hG] at g1 ⊢; exact runIn (fun h => entry_in (by omega) hx.out0 hc h) (fun h => entry_down h) g1
  have hgG := hGi.g (by omega)
  refine cj_skip (hK7 _ _ _ (cj_seq fun K11 hK11 => ?_))
  refine cj_draw (by kernel_rfl) (by kernel_rfl) ?_
  first | refine Qa (La o30) ?_ | refine Qa (Ls o30) ?_
  refine Qa (y_nilCheck rfl) ?_
  refine Qa (Ga Tryz.underlying81 Tryz.sizeOf44) ?_
  first | refine Qa (La o44) ?_ | refine Qa (Ls o44) ?_
  refine Qa (Ca Tryz.call19 (lgLast_q b.l (some ⟨b.d, 0, none⟩) v2.va G.2.1.g hgG hv2.va)) ?_
  first | refine Qa (La o30) ?_ | refine Qa (Ls o30) ?_
  refine Qa (y_nilCheck rfl) ?_
  refine Qa (Ga Tryz.underlying81 Tryz.sizeOf44) ?_
  first | refine Qa (La o44) ?_ | refine Qa (Ls o44) ?_
  refine Qa (Ca Tryz.call13 (lgTerm_q b.l (some ⟨b.d, 0, none⟩) v2.va G.2.1.g)) ?_
  refine Qa (y_move rfl) ?_
  refine Qa (y_assign rfl) ?_
  refine Qa (y_assign rfl) ?_
  refine Qa (y_assign rfl) ?_
  refine qj_nil ?_
  refine hK11 _ _ _ ?_
  refine cj_env (eL 4 rfl (eL 5 rfl (eL 6 rfl eN))) ?_
  refine cj_ret (hret _ _ _ ?_)
  refine Ea Tryz.results21 (.cons (rv_tmp rfl) (.cons (rv_tmp rfl) (.cons (rv_tmp rfl) .nil))) (ndI b v2 G.2.1 G.2.2) (by first | exact Hp.le_refl _ | assumption) ?_
  rw [hP]; exact ⟨_, v2, rfl, hr, hv2, rfl⟩
end V
end Go.Proofs.YtjdbigplednihaaGreat
set_option linter.unusedSimpArgs false
set_option linter.unusedVariables false
set_option maxRecDepth 100000
namespace Go.Proofs.YtjdbigplednihaaGreat
open Go.RowKit
namespace V
set_option maxHeartbeats 4000000
def compactN (s : NS) (i : Int) (t : Bs) : Int × NS :=
  if downS s = true then (3, s) else if i > s.1.commit then (1, s) else ((s.1.g.compD s.2 i t).1, ({ s.1 with g := (s.1.g.compD s.2 i t).2.1 }, (s.1.g.compD s.2 i t).2.2))
theorem ndCompact_t {R : Hp} (b : NB) (v : NV) (x : ND) (D : DK) (i : Int) (t : Bs) (k n : Nat) (hk : k ≤ 40) (hx : NIn k x) (hv : NOk R v x) (hi : u64B i) (ht : t.length ≤ 1000000) (hD : D.ok n) :
    Tri Tryz.prog 49 [.pointer (some ⟨b.x, 0, none⟩), .int .u64 i, .string (str t)] R (ndI b v x D)
      (fun r R' L' => r = .int .i64 (compactN (x, D) i t).1 ∧ ∃ v', NOk R' v' (compactN (x, D) i t).2.1 ∧ L' = ndI b v' (compactN (x, D) i t).2.1 (compactN (x, D) i t).2.2) := by
  have hg := hx.g (by omega)
  have hbs := hx.base
  have hle : x.g.last = x.g.base + x.g.all.length := rfl
  have hal := hx.alln
  have hen := ents_le (fun e he => (hx.all e he).2)
  refine tri_of Tryz.func49 rfl Tryz.ntmps49 rfl (fun σ F Q hret hend hpan => ?_)
  try simp only [cA, nA]
  refine cj_seq fun K1 hK1 => cj_region ?_
  refine Ps ?_
  refine rj_nil (hK1 _ _ _ (cj_seq fun K2 hK2 => cj_block (cj_seq fun K3 hK3 => cj_region ?_)))
  refine Pm ?_
  refine Pa (Ca Tryz.call26 (ndDown_q b v x D)) ?_
  refine Ps ?_
  refine rj_nil (hK3 _ _ _ ?_)
  refine cj_cond rfl (fun hc7 => ?_) (fun hc7 => ?_)
  have f1 : downS (x, D) = true := hc7
  have hP : compactN (x, D) i t = (3, (x, D)) := by unfold compactN; rw [if_pos f1]
  refine cj_seq fun K5 hK5 => cj_region ?_
  refine Ps ?_
  refine rj_nil (hK5 _ _ _ (cj_ret (hret _ _ _ ?_)))
  refine Ea Tryz.results49 (.cons (rv_tmp rfl) .nil) (ndI b v x D) (by first | exact Hp.le_refl _ | assumption) ?_
  rw [hP]; exact ⟨rfl, v, hv, rfl⟩
  have f1 : ¬ downS (x, D) = true := by simpa using hc7
  refine cj_seq fun K6 hK6 => cj_region ?_
  refine Pm ?_
  refine Pm ?_
  refine Pa (y_nilCheck rfl) ?_
  refine Pa (Ga Tryz.underlying81 Tryz.sizeOf31) ?_
  first | refine Pa (La o31) ?_ | refine Pa (Ls o31) ?_
  refine Pa (y_gtr rfl rfl) ?_
  refine Ps ?_
  refine rj_nil (hK6 _ _ _ ?_)
  refine cj_cond rfl (fun hc10 => ?_) (fun hc10 => ?_)
  have f2 : i > x.commit := by (try simp at hc10); omega
  have hP : compactN (x, D) i t = (1, (x, D)) := by unfold compactN; rw [if_neg f1, if_pos f2]
  refine cj_seq fun K8 hK8 => cj_region ?_
  refine Ps ?_
  refine rj_nil (hK8 _ _ _ (cj_ret (hret _ _ _ ?_)))
  refine Ea Tryz.results49 (.cons (rv_tmp rfl) .nil) (ndI b v x D) (by first | exact Hp.le_refl _ | assumption) ?_
  rw [hP]; exact ⟨rfl, v, hv, rfl⟩
  have f2 : ¬ i > x.commit := by (try simp at hc10); omega
  obtain ⟨ra, hra⟩ : ∃ r, r = x.g.compD D i t := ⟨_, rfl⟩
  have hP : compactN (x, D) i t = (ra.1, ({ x with g := ra.2.1 }, ra.2.2)) := by unfold compactN; rw [if_neg f1, if_neg f2, hra]
  refine cj_skip (hK2 _ _ _ (cj_seq fun K9 hK9 => cj_region ?_))
  refine Pm ?_
  refine Pa (y_nilCheck rfl) ?_
  refine Pa (Ga Tryz.underlying81 Tryz.sizeOf44) ?_
  first | refine Pa (La o44) ?_ | refine Pa (Ls o44) ?_
  refine Pm ?_
  refine Pm ?_
  refine Ra Tryz.call87 (lgCompact_t b.l b.d v.va v.u x.g D n i t hg hi hv.va ht (by omega) (by omega) hD) ?_
  rintro r R4 L' hR4 ⟨rfl, u2, va2, hva2, rfl⟩
  rw [← hra] at hva2 ⊢
  try simp only [cA, nA]
  refine Ps ?_
  refine rj_nil (hK9 _ _ _ ?_)
  refine cj_env (eL 6 rfl eN) ?_
  refine cj_ret (hret _ _ _ ?_)
  refine Ea Tryz.results49 (.cons (rv_tmp rfl) .nil) (ndI b (v.logd u2 va2) { x with g := ra.2.1 } ra.2.2) (by first | exact Hp.le_refl _ | assumption) ?_
  rw [hP]; exact ⟨rfl, v.logd u2 va2, hv.logd (y := { x with g := ra.2.1 }) hR4 ⟨rfl, rfl⟩ hva2, rfl⟩
def NV.new (u va : Value) : NV := ⟨u, va, .map none, .slice none 0 0, .slice none 0 0, []⟩
theorem start_t {R : Hp} (l d id n : Nat) (u va : Value) (g : LG) (D : DK) (hn : id < n ∧ n ≤ 9) (hva : FrX entE R g.all va) :
    Tri Tryz.prog 25 [.int .i64 (id : Int), .int .i64 (n : Int), .pointer (some ⟨l, 0, none⟩)] R [lgB l (some ⟨d, 0, none⟩) va g, dkB d u D, dkS u D]
      (fun r R' L' => ((g.down || D.down) = true ∧ r = tupOf [.pointer none, .int .i64 3] ∧ L' = [lgB l (some ⟨d, 0, none⟩) va g, dkB d u D, dkS u D]) ∨
        (¬ (g.down || D.down) = true ∧ ∃ bx, r = tupOf [.pointer (some ⟨bx, 0, none⟩), .int .i64 0] ∧ NOk R' (NV.new u va) (ND.start id n g) ∧ L' = ndI ⟨bx, l, d⟩ (NV.new u va) (ND.start id n g) D)) := by
  refine tri_of Tryz.func25 rfl Tryz.ntmps25 rfl (fun σ F Q hret hend hpan => ?_)
  try simp only [cA, nA]
  refine cj_seq fun K1 hK1 => cj_region ?_
  refine Ps ?_
  refine Ps ?_
  refine rj_nil (hK1 _ _ _ (cj_seq fun K2 hK2 => cj_block (cj_seq fun K3 hK3 => cj_region ?_)))
  refine Pm ?_
  refine Pa ((Yld.to (u := .bool false) (y_lss rfl rfl) (by rw [decide_eq_false (by omega)]))) ?_
  refine Pm ?_
  refine Pb (y_move rfl) ?_
  refine Pb ((Yld.to (u := .bool false) (y_gtr rfl rfl) (by rw [decide_eq_false (by omega)]))) ?_
  refine Pa (y_pick_f rfl rfl) ?_
  refine Pm ?_
  refine Pb (y_move rfl) ?_
  refine Pb ((Yld.to (u := .bool false) (y_lss rfl rfl) (by rw [decide_eq_false (by omega)]))) ?_
  refine Pa (y_pick_f rfl rfl) ?_
  refine Pm ?_
  refine Pb (y_move rfl) ?_
  refine Pb (y_move rfl) ?_
  refine Pb ((Yld.to (u := .bool false) (y_geq rfl rfl) (by rw [decide_eq_false (by omega)]))) ?_
  refine Pa (y_pick_f rfl rfl) ?_
  refine Ps ?_
  refine rj_nil (hK3 _ _ _ ?_)
  refine cj_env (eL 0 rfl (eL 1 rfl (eL 2 rfl (eL 11 rfl eN)))) ?_
  refine cj_cond_f rfl (cj_seq fun K4 hK4 => cj_region ?_)
  refine Pm ?_
  refine Pa (Ca Tryz.call59 (lgDown_q l d va u g D)) ?_
  refine Ps ?_
  refine rj_nil (hK4 _ _ _ ?_)
  refine cj_cond rfl (fun hc27 => ?_) (fun hc27 => ?_)
  have f1 : (g.down || D.down) = true := hc27
  refine cj_seq fun K6 hK6 => cj_region ?_
  refine Ps ?_
  refine Ps ?_
  refine rj_nil (hK6 _ _ _ (cj_ret (hret _ _ _ ?_)))
  refine Ea Tryz.results25 (.cons (rv_tmp rfl) (.cons (rv_tmp rfl) .nil)) [lgB l (some ⟨d, 0, none⟩) va g, dkB d u D, dkS u D] le_ ?_
  exact .inl ⟨f1, rfl, rfl⟩
  have f1 : ¬ (g.down || D.down) = true := by simpa using hc27
  refine cj_skip (hK2 _ _ _ (cj_seq fun K7 hK7 => cj_region ?_))
  refine Pm ?_
  refine Pa (Ca Tryz.call18 (lgBase_q l (some ⟨d, 0, none⟩) va g)) ?_
  refine Pm ?_
  refine Pa (y_extract rfl rfl) ?_
  refine Pa (y_extract rfl rfl) ?_
  refine Pa (y_extract rfl rfl) ?_
  refine Ps ?_
  refine Ps ?_
  refine Ps ?_
  refine rj_nil (hK7 _ _ _ (cj_seq fun K8 hK8 => cj_region ?_))
  refine Pm ?_
  refine Pm ?_
  refine Pm ?_
  refine Pm ?_
  refine Pa (y_build (cells := [_, _, _, _, _, _, _, _, _, _, _]) [(0, 1), (1, 1), (2, 1), (3, 1), (4, 1), (5, 1), (6, 1), (7, 1), (8, 1), (9, 1), (10, 1)] Tryz.underlying81 Tryz.zeroValue81 (fun _ => rfl) rfl rfl) ?_
  refine rj_box (wn0 rfl) rfl rfl rfl (fun bx => ?_)
  refine Ps ?_
  refine Ps ?_
  refine rj_add (A := prA (NV.new u va) (ND.start id n g)) (slc_nil _ _) ?_
  refine rj_add (A := mpA (NV.new u va).vm (ND.start id n g).votes) (fun _ => trivial) ?_
  refine rj_nil (hK8 _ _ _ ?_)
  refine cj_env (eL 6 rfl (eL 7 rfl eN)) ?_
  refine cj_ret (hret _ _ _ ?_)
  refine Ea Tryz.results25 (.cons (rv_tmp rfl) (.cons (rv_tmp rfl) .nil)) (ndI ⟨bx, l, d⟩ (NV.new u va) (ND.start id n g) D) le_ ?_
  exact .inr ⟨f1, bx, rfl, ⟨hva, Els.nil, rfl, rfl, rfl, fun h => absurd (show (0 : Int) = 1 from h) (by decide)⟩, rfl⟩
def DKh (D : DK) : Prop := D.down = false ∧ D.bound = false
theorem step_h {D : DK} (h : DKh D) : D.step = (true, D) := by unfold DK.step; simp [h.1, h.2]
theorem put_h {D : DK} (h : DKh D) (s : Bs) : (D.put s).1 = 0 ∧ DKh (D.put s).2 ∧ (D.put s).2.b = D.b ++ s ∧ (D.put s).2.sure = (D.b ++ s).length := by
  have e2 : D.append s = (0, { D with b := D.b ++ s }) := by unfold DK.append; rw [step_h h]; rfl
  have e3 : D.put s = (0, { D with b := D.b ++ s, sure := (D.b ++ s).length }) := by
    unfold DK.put
    rw [e2]
    simp only [ite_true]
    unfold DK.sync
    rw [step_h (D := { D with b := D.b ++ s }) h]; rfl
  rw [e3]
  exact ⟨rfl, h, rfl, rfl⟩
theorem swap_h {D : DK} (h : DKh D) (s : Bs) : (D.swap s).1 = 0 ∧ DKh (D.swap s).2 ∧ (D.swap s).2.b = s ∧ (D.swap s).2.sure = s.length := by
  unfold DK.swap
  rw [step_h h]
  exact ⟨rfl, h, rfl, rfl⟩
theorem addD_h {g : LG} {D : DK} (hg : g.down = false) (h : DKh D) {i : Int} {m : List Ent} (hi : g.base ≤ i ∧ i ≤ g.last) : (g.addD D i m).1 = 0 ∧ (g.addD D i m).2.1 = g.play (.add i m) ∧ (g.addD D i m).2.2 = (D.put (Rec.add i m).bytes).2 := by
  have hp := put_h h (Rec.add i m).bytes
  unfold LG.addD
  rw [if_neg (by simp [hg, h.1]), if_neg (by omega), if_pos hp.1]
  exact ⟨rfl, rfl, rfl⟩
theorem setD_h {g : LG} {D : DK} (hg : g.down = false) (h : DKh D) {t v : Int} (ht : g.term ≤ t) (hv : -1 ≤ v) : (g.setTermD D t v).1 = 0 ∧ (g.setTermD D t v).2.1 = { g with term := t, vote := v } ∧ (g.setTermD D t v).2.2 = (D.put (Rec.term t v).bytes).2 := by
  have hp := put_h h (Rec.term t v).bytes
  unfold LG.setTermD
  rw [if_neg (by simp [hg, h.1]), if_neg (by omega), if_pos hp.1]
  exact ⟨rfl, rfl, rfl⟩
theorem instD_h {g : LG} {D : DK} (hg : g.down = false) (h : DKh D) {i t : Int} {s : Bs} (hi : g.base < i) : (g.instD D i t s).1 = 0 ∧ (g.instD D i t s).2.1 = g.inst i t s ∧ ∃ to, (g.instD D i t s).2.2 = (D.swap (Rec.all to).bytes).2 ∧ to = g.inst i t s := by
  unfold LG.instD LG.inst
  rw [if_neg (by simp [hg, h.1]), if_neg (by omega)]
  by_cases h1 : g.termAt i = some t
  · have h2 : i ≤ g.last := by
      unfold LG.termAt at h1
      rw [if_neg (by omega)] at h1
      unfold LG.at at h1
      split at h1
      · rename_i h3; exact h3.2
      · cases h1
    rw [if_pos h1, if_pos h1]
    unfold LG.compD
    rw [if_neg (by simp [hg, h.1]), if_neg (by omega)]
    unfold LG.swapD
    rw [if_pos (swap_h h _).1]
    exact ⟨rfl, rfl, _, rfl, rfl⟩
  · rw [if_neg h1, if_neg h1]
    unfold LG.swapD
    rw [if_pos (swap_h h _).1]
    exact ⟨rfl, rfl, _, rfl, rfl⟩
theorem LD.mono2 {n m : Nat} {g : LG} {D : DK} (h : LD n g D) (hm : n ≤ m) : LD m g D := by
  obtain ⟨h1, h2, h3, h4, h5, h6, h7⟩ := h
  exact ⟨h1, h2, h3, h4, h5, by omega, h7⟩
def Hs (n : Nat) (r : Bool × NS) (y : ND) : Prop := r.1 = true ∧ r.2.1 = y ∧ LD n y.g r.2.2
theorem LD.h {n : Nat} {g : LG} {D : DK} (h : LD n g D) : DKh D := ⟨h.1, h.2.1⟩
theorem must_add {n k : Nat} {x : ND} {D : DK} (hk : k ≤ 90) (hl : LD n x.g D) (hx : NIn k x) {i : Int} {m : List Ent} (hi : x.g.base ≤ i ∧ i ≤ x.g.last) (hm : ∀ e ∈ m, (0 ≤ e.1 ∧ e.1 ≤ 2305843009213693952 + k) ∧ e.2.length ≤ 100) (hn : m.length ≤ 20) :
    Hs (n + 3000) (mustN (x, D) (x.g.addD D i m)) { x with g := x.g.play (.add i m) } := by
  have hgd : x.g.down = false := hl.2.2.2.2.1
  obtain ⟨h1, h2, h3⟩ := addD_h hgd hl.h (m := m) hi
  have hg2 := (hx.add (i := i) hm hn).g (by omega)
  have hb := hx.base
  have hal := hx.alln
  have hle : x.g.last = x.g.base + x.g.all.length := rfl
  have hen := ents_le (fun e he => (hm e he).2)
  have hmb : ∀ e ∈ m, u64B e.1 ∧ e.2.length ≤ 1000000 := fun e he => by have := hm e he; unfold u64B; omega
  have hln := Rec.len_add (b := i) (by omega) hmb (by omega)
  obtain ⟨p1, p2⟩ := LD.put hl (r := .add i m) (k := 2900) ⟨hi, hmb, by omega⟩ (by omega) (by omega) hg2
  unfold mustN
  rw [if_pos h1, h2, h3]
  obtain ⟨q1, q2, q3, q4, q5, q6, q7⟩ := p2
  exact ⟨rfl, rfl, q1, q2, q3, q4, q5, Nat.le_trans q6 (by omega), q7⟩
theorem must_set {n k : Nat} {x : ND} {D : DK} (hk : k ≤ 90) (hl : LD n x.g D) (hx : NIn k x) {t v : Int} (ht : x.g.term ≤ t ∧ t ≤ 2305843009213693952 + (k + 1)) (hv : -1 ≤ v ∧ v < 9) :
    Hs (n + 3000) (mustN (x, D) (x.g.setTermD D t v)) { x with g := { x.g with term := t, vote := v } } := by
  have hgd : x.g.down = false := hl.2.2.2.2.1
  obtain ⟨h1, h2, h3⟩ := setD_h hgd hl.h ht.1 hv.1
  have hterm := hx.term
  have hg2 := (hx.set (t := t) (vt := v) (by omega) hv).g (by omega)
  have hln := Rec.len_term (t := t) (v := v) (by unfold u64B; omega) (by omega)
  obtain ⟨p1, p2⟩ := LD.put hl (r := .term t v) (k := 2900) ⟨by unfold u64B; omega, hv.1, by omega⟩ (by omega) (by omega) hg2
  unfold mustN
  rw [if_pos h1, h2, h3]
  obtain ⟨q1, q2, q3, q4, q5, q6, q7⟩ := p2
  exact ⟨rfl, rfl, q1, q2, q3, q4, q5, Nat.le_trans q6 (by omega), q7⟩
theorem Hs.bind {n m : Nat} {r : Bool × NS} {y z : ND} {f : NS → Bool × NS} (h : Hs n r y) (hf : ∀ D, LD n y.g D → Hs m (f (y, D)) z) : Hs m (bindN r f) z := by
  obtain ⟨h1, h2, h3⟩ := h
  unfold bindN
  rw [if_pos h1, show r.2 = (y, r.2.2) from by rw [← h2]]
  exact hf _ h3
def ND.entryP (x : ND) (cmd : Bs) : ND := (ND.count { x with g := x.g.play (.add x.g.last [(x.g.term, cmd)]) }).feedAll
def ND.winP (x : ND) : ND := x.wins.entryP []
def ND.standP (x : ND) : ND := if x.n = 1 then (ND.stands { x with g := { x.g with term := x.g.term + 1, vote := x.id } }).winP else (ND.stands { x with g := { x.g with term := x.g.term + 1, vote := x.id } }).askAll
def ND.tickP (x : ND) : ND :=
  if x.role = 2 then if x.patience + 1 ≥ 3 then ND.feedAll { x with patience := 0 } else { x with patience := x.patience + 1 }
  else if x.patience + 1 ≥ limitI x.id x.g.term then ND.standP { x with patience := x.patience + 1 } else { x with patience := x.patience + 1 }
def ND.askedP (x : ND) (m : Msg) : ND := if x.grants m = true then ND.send { x with g := { x.g with term := x.g.term, vote := m.frm }, patience := 0 } (ND.voteMsg m true) else x.send (ND.voteMsg m false)
def ND.votedP (x : ND) (m : Msg) : ND :=
  if ¬ x.role = 1 ∨ ¬ m.term = x.g.term ∨ m.ok = false then x
  else if 2 * ((setAdd x.votes m.frm).length : Int) > x.n then ND.winP { x with votes := setAdd x.votes m.frm } else { x with votes := setAdd x.votes m.frm }
def ND.restP (x : ND) (m : Msg) (c : Int × List Ent) : ND := match ND.fits x.g c.2 (c.1 + 1) with
  | none => (x.commits m (c.1 + c.2.length)).answer m true (c.1 + c.2.length)
  | some (i, l) => if i ≤ x.commit then x else (ND.commits { x with g := x.g.play (.add (i - 1) l) } m (c.1 + c.2.length)).answer m true (c.1 + c.2.length)
def ND.addP (x : ND) (m : Msg) : ND :=
  if m.index < x.g.base ∧ (m.es.length : Int) < x.g.base - m.index then x.answer m true x.g.base
  else if ¬ m.index < x.g.base ∧ ¬ x.g.termAt m.index = some m.logTerm then x.answer m false (min x.g.last (max m.index 1 - 1))
  else x.restP m (x.cutM m)
def ND.snapP (x : ND) (m : Msg) : ND := if m.index > x.commit then ND.answer { x with g := x.g.inst m.index m.logTerm m.state, commit := m.index } m true m.index else x.answer m true x.commit
def ND.fedP (x : ND) (m : Msg) : ND := if m.term < x.g.term then x.answer m false 0 else if x.role = 2 then x else if m.kind = 2 then (x.follows m).addP m else (x.follows m).snapP m
def ND.heardP (x : ND) (m : Msg) : ND := (heardN (x, DK.new) m).2.1
def ND.kindP (x : ND) (m : Msg) : ND := if m.kind = 0 then x.askedP m else if m.kind = 1 then x.votedP m else if m.kind = 2 ∨ m.kind = 4 then x.fedP m else if m.kind = 3 then x.heardP m else x
def ND.receiveP (x : ND) (m : Msg) : ND :=
  if ¬ m.to = x.id ∨ m.frm = x.id ∨ m.frm < 0 ∨ m.frm ≥ x.n then x
  else if m.term > x.g.term then (ND.newTerm { x with g := { x.g with term := m.term, vote := -1 } }).kindP m else x.kindP m
theorem Hs.ret {n m : Nat} {y : ND} {D : DK} {g : LG} (h : LD n g D) (hg : y.g = g) (hm : n ≤ m) : Hs m (true, (y, D)) y := ⟨rfl, rfl, by rw [hg]; exact LD.mono2 h hm⟩
theorem feedAll_g (x : ND) : x.feedAll.g = x.g := by rw [feedAll_eq]; rfl
theorem askAll_g (x : ND) : x.askAll.g = x.g := by unfold ND.askAll; rw [asks_eq]; rfl
theorem count_g (x : ND) : x.count.g = x.g := (count_out x).2.1
theorem entry_h {n k : Nat} {x : ND} {D : DK} {cmd : Bs} (hk : k ≤ 90) (hl : LD n x.g D) (hx : NIn k x) (hc : cmd.length ≤ 100) : Hs (n + 3000) (entryN (x, D) cmd) (x.entryP cmd) := by
  have ht := hx.term
  have hle : x.g.last = x.g.base + x.g.all.length := rfl
  exact Hs.bind (must_add (i := x.g.last) (m := [(x.g.term, cmd)]) hk hl hx ⟨by omega, Int.le_refl _⟩ (fun e he => by simp at he; subst he; exact ⟨⟨by omega, by omega⟩, hc⟩) (by simp)) (fun D' h => Hs.ret h (by rw [feedAll_g, count_g]) (Nat.le_refl _))
theorem win_h {n k : Nat} {x : ND} {D : DK} (hk : k ≤ 90) (hl : LD n x.g D) (hx : NIn k x) : Hs (n + 3000) (winN (x, D)) x.winP :=
  entry_h (x := x.wins) hk hl (NIn.wins (by omega) hx) (by simp)
theorem stand_h {n k : Nat} {x : ND} {D : DK} (hk : k ≤ 80) (hl : LD n x.g D) (hx : NIn k x) : Hs (n + 6000) (standN (x, D)) x.standP := by
  have ht := hx.term
  have hid := hx.idn
  refine Hs.bind (must_set (by omega) hl hx (t := x.g.term + 1) (v := x.id) (by omega) (by omega)) (fun D' h => ?_)
  have h1 := (hx.set (t := x.g.term + 1) (vt := x.id) (by omega) (by omega)).stands
  unfold ND.standP
  dsimp only
  by_cases hn : x.n = 1
  · rw [if_pos hn, if_pos hn]
    exact win_h (k := k + 1) (by omega) h h1
  · rw [if_neg hn, if_neg hn]
    exact Hs.ret h (askAll_g _) (by omega)
theorem tick_h {n k : Nat} {x : ND} {D : DK} (hk : k ≤ 70) (hl : LD n x.g D) (hx : NIn k x) : Hs (n + 6000) (tickN (x, D)) x.tickP := by
  have hp := hx.patience
  unfold tickN ND.tickP
  dsimp only
  by_cases h1 : x.role = 2
  · rw [if_pos h1, if_pos h1]
    by_cases h2 : x.patience + 1 ≥ 3
    · rw [if_pos h2, if_pos h2]; exact Hs.ret hl (feedAll_g _) (by omega)
    · rw [if_neg h2, if_neg h2]; exact Hs.ret hl rfl (by omega)
  · rw [if_neg h1, if_neg h1]
    by_cases h2 : x.patience + 1 ≥ limitI x.id x.g.term
    · rw [if_pos h2, if_pos h2]
      exact stand_h (k := k + 1) (x := { x with patience := x.patience + 1 }) (by omega) hl ((hx.le (show k ≤ k + 1 by omega)).pat (by omega))
    · rw [if_neg h2, if_neg h2]; exact Hs.ret hl rfl (by omega)
theorem asked_h {n k : Nat} {x : ND} {D : DK} {m : Msg} (hk : k ≤ 70) (hl : LD n x.g D) (hx : NIn k x) (hm : MIn k x.n m) : Hs (n + 3000) (askedN (x, D) m) (x.askedP m) := by
  have hf := hm.frm
  have hid := hx.idn
  have ht := hx.term
  unfold askedN ND.askedP
  dsimp only
  by_cases h1 : x.grants m = true
  · rw [if_pos h1, if_pos h1]
    exact Hs.bind (must_set (by omega) hl hx (t := x.g.term) (v := m.frm) (by omega) (by omega)) (fun D' h => Hs.ret h rfl (Nat.le_refl _))
  · rw [if_neg h1, if_neg h1]; exact Hs.ret hl rfl (by omega)
theorem voted_h {n k : Nat} {x : ND} {D : DK} {m : Msg} (hk : k ≤ 70) (hl : LD n x.g D) (hx : NIn k x) (hm : MIn k x.n m) : Hs (n + 3000) (votedN (x, D) m) (x.votedP m) := by
  unfold votedN ND.votedP
  dsimp only
  by_cases h1 : ¬ x.role = 1 ∨ ¬ m.term = x.g.term ∨ m.ok = false
  · rw [if_pos h1, if_pos h1]; exact Hs.ret hl rfl (by omega)
  · rw [if_neg h1, if_neg h1]
    by_cases h2 : 2 * ((setAdd x.votes m.frm).length : Int) > x.n
    · rw [if_pos h2, if_pos h2]
      exact win_h (k := k) (x := { x with votes := setAdd x.votes m.frm }) (by omega) hl (hx.vote1 hm.frm)
    · rw [if_neg h2, if_neg h2]; exact Hs.ret hl rfl (by omega)
theorem fits_at {g : LG} : ∀ {l : List Ent} {i j : Int} {l2 : List Ent}, ND.fits g l i = some (j, l2) → i ≤ j ∧ (∃ c : Nat, l2 = l.drop c ∧ j = i + c) ∧ (j = i ∨ (∃ e, g.at (j - 1) = some e))
  | [], i, j, l2, h => by cases h
  | e :: l, i, j, l2, h => by
    by_cases h1 : (g.at i).map (·.1) = some e.1
    · rw [fits_yes h1] at h
      obtain ⟨a, ⟨c, hc1, hc2⟩, d⟩ := fits_at h
      refine ⟨by omega, ⟨c + 1, by simpa using hc1, by omega⟩, .inr ?_⟩
      rcases d with d | d
      · subst d
        cases h2 : g.at i with
        | none => rw [h2] at h1; cases h1
        | some e2 => exact ⟨e2, by rw [show i + 1 - 1 = i by omega]; exact h2⟩
      · exact d
    · rw [fits_no h1] at h
      cases h
      exact ⟨Int.le_refl _, ⟨0, by simp, by omega⟩, .inl rfl⟩
theorem at_last {g : LG} {i : Int} {e : Ent} (h : g.at i = some e) : g.base < i ∧ i ≤ g.last := by
  unfold LG.at at h
  split at h
  · assumption
  · cases h
theorem termAt_last {g : LG} {i t : Int} (h : g.termAt i = some t) : g.base ≤ i ∧ i ≤ g.last := by
  unfold LG.termAt at h
  split at h
  · rename_i h1; unfold LG.last; omega
  · cases h2 : g.at i with
    | none => rw [h2] at h; cases h
    | some e => have := at_last h2; omega
theorem rest_h {n k : Nat} {x : ND} {D : DK} {m : Msg} (hk : k ≤ 70) (hl : LD n x.g D) (hx : NIn k x) (hm : MIn k x.n m) (hc : x.g.base ≤ (x.cutM m).1 ∧ (x.cutM m).1 ≤ x.g.last) : Hs (n + 3000) (restN x D m (x.cutM m)) (x.restP m (x.cutM m)) := by
  obtain ⟨hb1, hb2, hb3⟩ := cutM_b hx hm
  unfold restN ND.restP
  cases hfi : ND.fits x.g (x.cutM m).2 ((x.cutM m).1 + 1) with
  | none => exact Hs.ret hl rfl (by omega)
  | some p =>
    obtain ⟨i, l⟩ := p
    obtain ⟨a1, ⟨c, hc1, hc2⟩, a3⟩ := fits_at hfi
    dsimp only
    by_cases h1 : i ≤ x.commit
    · rw [if_pos h1, if_pos h1]; exact Hs.ret hl rfl (by omega)
    · rw [if_neg h1, if_neg h1]
      have hi : x.g.base ≤ i - 1 ∧ i - 1 ≤ x.g.last := by
        rcases a3 with a3 | ⟨e, a3⟩
        · omega
        · have := at_last a3; omega
      exact Hs.bind (must_add (i := i - 1) (m := l) (by omega) hl hx hi (fun e he => hb3 e (by rw [hc1] at he; exact List.mem_of_mem_drop he)) (by rw [hc1]; simp; omega)) (fun D' h => Hs.ret h rfl (Nat.le_refl _))
theorem add_h {n k : Nat} {x : ND} {D : DK} {m : Msg} (hk : k ≤ 70) (hl : LD n x.g D) (hx : NIn k x) (hm : MIn k x.n m) : Hs (n + 3000) (addN (x, D) m) (x.addP m) := by
  unfold ND.addP
  by_cases h1 : m.index < x.g.base ∧ (m.es.length : Int) < x.g.base - m.index
  · unfold addN
    rw [if_pos h1, if_pos h1]; exact Hs.ret hl rfl (by omega)
  · by_cases h2 : ¬ m.index < x.g.base ∧ ¬ x.g.termAt m.index = some m.logTerm
    · unfold addN
      rw [if_neg h1, if_neg h1, if_pos h2, if_pos h2]; exact Hs.ret hl rfl (by omega)
    · rw [addN_eq h1 h2, if_neg h1, if_neg h2]
      refine rest_h hk hl hx hm ?_
      unfold ND.cutM
      by_cases h3 : m.index < x.g.base
      · rw [if_pos h3]; unfold LG.last; dsimp only; omega
      · rw [if_neg h3]
        have h4 : x.g.termAt m.index = some m.logTerm := by
          by_cases h4 : x.g.termAt m.index = some m.logTerm
          · exact h4
          · exact absurd ⟨h3, h4⟩ h2
        exact termAt_last h4
theorem LD.swap {n : Nat} {g to : LG} {D : DK} (h : LD n g D) (ht : to.ok) (hd : to.down = false) (hw : (wr (Rec.all to).nd).length ≤ 16777216) (hn : 17000000 ≤ n) : LD n to (D.swap (Rec.all to).bytes).2 := by
  obtain ⟨h1, h2, h3, h4, h5, h6, rs, h7, h8⟩ := h
  have e : D.swap (Rec.all to).bytes = (0, { D with b := (Rec.all to).bytes, sure := (Rec.all to).bytes.length }) := by
    unfold DK.swap; rw [step_h ⟨h1, h2⟩]; rfl
  rw [e]
  have hp : LG.new.play (.all to) = to := by
    show { to with down := false } = to
    cases to; simp at hd; subst hd; rfl
  refine ⟨h1, h2, rfl, h4, hd, ?_, [Rec.all to], by simp [recsB], .cons LG.new_ok ht hw ?_⟩
  · show (Rec.all to).bytes.length ≤ n
    unfold Rec.bytes; rw [List.length_append, be4_len]; omega
  · rw [hp]; exact .nil _ ht
theorem inst_len {k : Nat} {x : ND} (hk : k ≤ 90) (hx : NIn k x) : (wr (Rec.all x.g).nd).length ≤ 16777216 := by
  have h1 := Rec.len_all (hx.g (by omega))
  have h2 := ents_le (fun e he => (hx.all e he).2)
  have h3 := hx.alln
  have h4 := hx.state
  omega
theorem snap_h {n k : Nat} {x : ND} {D : DK} {m : Msg} (hn : 17000000 ≤ n) (hk : k ≤ 70) (hl : LD n x.g D) (hx : NIn k x) (hm : MIn k x.n m) (hb : x.g.base ≤ x.commit) : Hs (n + 3000) (snapN (x, D) m) (x.snapP m) := by
  unfold snapN ND.snapP
  dsimp only
  by_cases h1 : m.index > x.commit
  · rw [if_pos h1, if_pos h1]
    have hgd : x.g.down = false := hl.2.2.2.2.1
    obtain ⟨a1, a2, to, a3, a4⟩ := instD_h hgd hl.h (i := m.index) (t := m.logTerm) (s := m.state) (by omega)
    have hy := hx.inst hm.index hm.logTerm hm.state
    have hto : to.ok := by rw [a4]; exact hy.g (by omega)
    have htd : to.down = false := by rw [a4]; unfold LG.inst; split <;> exact hgd
    have hL := LD.swap hl hto htd (by rw [a4]; exact inst_len (x := { x with g := x.g.inst m.index m.logTerm m.state }) (by omega) hy) hn
    refine Hs.bind (y := { x with g := x.g.inst m.index m.logTerm m.state }) (n := n) ?_ (fun D' h => Hs.ret h rfl (by omega))
    unfold mustN
    rw [if_pos a1, a2, a3]
    exact ⟨rfl, rfl, by rw [← a4]; exact hL⟩
  · rw [if_neg h1, if_neg h1]; exact Hs.ret hl rfl (by omega)
theorem fed_h {n k : Nat} {x : ND} {D : DK} {m : Msg} (hn : 17000000 ≤ n) (hk : k ≤ 70) (hl : LD n x.g D) (hx : NIn k x) (hm : MIn k x.n m) (hb : x.g.base ≤ x.commit) : Hs (n + 3000) (fedN (x, D) m) (x.fedP m) := by
  unfold fedN ND.fedP
  dsimp only
  by_cases h1 : m.term < x.g.term
  · rw [if_pos h1, if_pos h1]; exact Hs.ret hl rfl (by omega)
  · rw [if_neg h1, if_neg h1]
    by_cases h2 : x.role = 2
    · rw [if_pos h2, if_pos h2]; exact Hs.ret hl rfl (by omega)
    · rw [if_neg h2, if_neg h2]
      by_cases h3 : m.kind = 2
      · rw [if_pos h3, if_pos h3]; exact add_h (x := x.follows m) hk hl (hx.follows m) hm
      · rw [if_neg h3, if_neg h3]; exact snap_h (x := x.follows m) hn hk hl (hx.follows m) hm hb
theorem heard_h {n : Nat} {x : ND} {D : DK} {m : Msg} (hl : LD n x.g D) : Hs n (heardN (x, D) m) (x.heardP m) := by
  unfold ND.heardP heardN
  dsimp only
  by_cases h1 : ¬ x.role = 2 ∨ ¬ m.term = x.g.term
  · rw [if_pos h1, if_pos h1]; exact ⟨rfl, rfl, hl⟩
  · rw [if_neg h1, if_neg h1]
    by_cases h2 : m.ok = false
    · rw [if_pos h2, if_pos h2]; exact ⟨rfl, rfl, hl⟩
    · rw [if_neg h2, if_neg h2]
      split
      · exact ⟨rfl, rfl, by show LD n (ND.count _).g _; rw [count_g]; exact hl⟩
      · exact ⟨rfl, rfl, by show LD n (ND.count _).g _; rw [count_g]; exact hl⟩
theorem kind_h {n k : Nat} {x : ND} {D : DK} {m : Msg} (hn : 17000000 ≤ n) (hk : k ≤ 70) (hl : LD n x.g D) (hx : NIn k x) (hm : MIn k x.n m) (hb : x.g.base ≤ x.commit) : Hs (n + 3000) (kindN (x, D) m) (x.kindP m) := by
  unfold kindN ND.kindP
  by_cases h0 : m.kind = 0
  · rw [if_pos h0, if_pos h0]; exact asked_h hk hl hx hm
  · rw [if_neg h0, if_neg h0]
    by_cases h1 : m.kind = 1
    · rw [if_pos h1, if_pos h1]; exact voted_h hk hl hx hm
    · rw [if_neg h1, if_neg h1]
      by_cases h2 : m.kind = 2 ∨ m.kind = 4
      · rw [if_pos h2, if_pos h2]; exact fed_h hn hk hl hx hm hb
      · rw [if_neg h2, if_neg h2]
        by_cases h3 : m.kind = 3
        · rw [if_pos h3, if_pos h3]
          obtain ⟨a, b, c⟩ := heard_h (m := m) hl
          exact ⟨a, b, LD.mono2 c (by omega)⟩
        · rw [if_neg h3, if_neg h3]; exact Hs.ret hl rfl (by omega)
theorem receive_h {n k : Nat} {x : ND} {D : DK} {m : Msg} (hn : 17000000 ≤ n) (hk : k ≤ 60) (hl : LD n x.g D) (hx : NIn k x) (hm : MIm k m) (hb : x.g.base ≤ x.commit) : Hs (n + 6000) (receiveN (x, D) m) (x.receiveP m) := by
  unfold receiveN ND.receiveP
  dsimp only
  have hmt := hm.term
  by_cases h1 : ¬ m.to = x.id ∨ m.frm = x.id ∨ m.frm < 0 ∨ m.frm ≥ x.n
  · rw [if_pos h1, if_pos h1]; exact Hs.ret hl rfl (by omega)
  · rw [if_neg h1, if_neg h1]
    have hf : 0 ≤ m.frm ∧ m.frm < x.n := by omega
    by_cases h2 : m.term > x.g.term
    · rw [if_pos h2, if_pos h2]
      refine Hs.bind (must_set (by omega) hl hx (t := m.term) (v := -1) (by omega) (by omega)) (fun D' h => ?_)
      exact kind_h (k := k + 1) (n := n + 3000) (x := ND.newTerm { x with g := { x.g with term := m.term, vote := -1 } }) (by omega) (by omega) h ((hx.set (t := m.term) (vt := -1) (by omega) (by omega)).newTerm) (hm.to hf (by omega)) hb
    · rw [if_neg h2, if_neg h2]
      obtain ⟨a, b, c⟩ := kind_h (m := m) hn (by omega) hl hx (hm.to hf (Nat.le_refl _)) hb
      exact ⟨a, b, LD.mono2 c (by omega)⟩
end V
end Go.Proofs.YtjdbigplednihaaGreat
set_option linter.unusedSimpArgs false
set_option linter.unusedVariables false
set_option maxRecDepth 100000
namespace Go.Proofs.YtjdbigplednihaaGreat
open Go.RowKit
namespace V
set_option maxHeartbeats 4000000
structure RW where
  va : Value
  vv : Value
  vn : Value
  vm : Value
def u64E : Elt Int where
  P := fun _ n cs => cs = [.int .u64 n]
  sz := 1
  mono := fun _ h => h
  len := fun h => by subst h; rfl
  one := fun h u hu => by subst h; simp at hu; subst hu; rfl
def bolE : Elt Bool where
  P := fun _ n cs => cs = [.bool n]
  sz := 1
  mono := fun _ h => h
  len := fun h => by subst h; rfl
  one := fun h u hu => by subst h; simp at hu; subst hu; rfl
def rnC (v : RW) (x : ND) : List Value := [.int .i64 (x.id : Int), .int .i64 (x.n : Int), .int .u64 x.g.term, .int .i64 x.g.vote, .int .u64 x.g.base, .int .u64 x.g.baseT, .string (str x.g.state), v.va, .int .i64 x.role, .int .i64 x.leader, .int .u64 x.commit, .int .i64 x.patience, v.vv, v.vn, v.vm]
def ND.has (x : ND) : List Bool := (List.range x.n).map fun (i : Nat) => decide ((i : Int) ∈ x.votes)
structure RNOk (R : Hp) (v : RW) (x : ND) : Prop where
  va : FrX entE R x.g.all v.va
  vv : v.vv.oneCell' = true
  vn : v.vn.oneCell' = true
  vm : v.vm.oneCell' = true
  votes : x.role = 1 → FrX bolE R x.has v.vv
  next : x.role = 2 → FrX u64E R (x.peers.map (·.1)) v.vn
  mat : x.role = 2 → FrX u64E R (x.peers.map (·.2)) v.vm
theorem RNOk.mono {R R' : Hp} (hR : R.le R') {v : RW} {x : ND} (h : RNOk R v x) : RNOk R' v x := ⟨h.va.mono hR, h.vv, h.vn, h.vm, fun hr => (h.votes hr).mono hR, fun hr => (h.next hr).mono hR, fun hr => (h.mat hr).mono hR⟩
theorem rnC_one {R : Hp} {v : RW} {x : ND} (h : RNOk R v x) : ∀ u ∈ rnC v x, u.oneCell' = true := fun u hu => by
  have h0 := h.va.one
  have h1 := h.vv
  have h2 := h.vn
  have h3 := h.vm
  simp only [rnC, List.mem_cons, List.not_mem_nil, or_false] at hu
  rcases hu with rfl | rfl | rfl | rfl | rfl | rfl | rfl | rfl | rfl | rfl | rfl | rfl | rfl | rfl | rfl <;> first | rfl | assumption
theorem QTri.eq2 {P : Program} {f : FuncId} {args : List Value} {R : Hp} {L : List Asn} {v v' : Value} (h : QTri P f args R L v) (e : v = v') : QTri P f args R L v' := e ▸ h
theorem rLimit_q {R : Hp} (x : ND) (k : Nat) (hk : k ≤ 100) (hx : NIn k x) : QTri Tryz.prog 73 [.int .i64 (x.id : Int), .int .u64 x.g.term] R [] (.int .i64 (limitI x.id x.g.term)) := by
  have h1 := hx.term
  have h2 := hx.idn
  have hm : 0 ≤ (7 * (x.id : Int) + 3 * x.g.term) % 11 ∧ (7 * (x.id : Int) + 3 * x.g.term) % 11 < 11 := ⟨Int.emod_nonneg _ (by decide), Int.emod_lt_of_pos _ (by decide)⟩
  refine Tri.q2 ?_
  refine tri_of Tryz.func73 rfl Tryz.ntmps73 rfl (fun σ F Q hret hend hpan => ?_)
  try simp only [cA, nA]
  refine cj_seq fun K1 hK1 => cj_region ?_
  refine Ps ?_
  refine rj_nil (hK1 _ _ _ (cj_seq fun K2 hK2 => cj_region ?_))
  refine Pm ?_
  refine Pa ((y_conv_in Tryz.underlying3 Tryz.underlying31 rfl (by (simp only [IntKind.min, IntKind.max, IntKind.signed, IntKind.bits, Bool.false_eq_true, ite_false, ite_true]; omega)))) ?_
  refine Pa ((Yld.to (u := .int .u64 (7 * (x.id : Int))) (y_mul rfl rfl) (by rw [wrap_in (by (simp only [IntKind.min, IntKind.max, IntKind.signed, IntKind.bits, Bool.false_eq_true, ite_false, ite_true]; omega))]))) ?_
  refine Pm ?_
  refine Pa ((Yld.to (u := .int .u64 (3 * x.g.term)) (y_mul rfl rfl) (by rw [wrap_in (by (simp only [IntKind.min, IntKind.max, IntKind.signed, IntKind.bits, Bool.false_eq_true, ite_false, ite_true]; omega))]))) ?_
  refine Pa ((y_addu rfl rfl (by omega))) ?_
  refine Pa ((Yld.to (u := .int .u64 ((7 * (x.id : Int) + 3 * x.g.term) % 11)) (y_rem rfl rfl (by decide)) (by rw [Int.tmod_eq_emod_of_nonneg (by omega)]))) ?_
  refine Pa ((y_conv_in Tryz.underlying31 Tryz.underlying3 rfl (by (simp only [IntKind.min, IntKind.max, IntKind.signed, IntKind.bits, Bool.false_eq_true, ite_false, ite_true]; omega)))) ?_
  refine Pa ((y_add64 rfl rfl (by omega))) ?_
  refine Ps ?_
  refine rj_nil (hK2 _ _ _ (cj_ret (hret _ _ _ ?_)))
  refine Ea Tryz.results73 (.cons (rv_tmp rfl) .nil) [] le_ ?_
  exact ⟨rfl, rfl⟩
theorem rmsg_q {R : Hp} (v : RW) (x : ND) (kd to : Int) : QTri Tryz.prog 78 [.agg ⟨rnC v x⟩, .int .i64 kd, .int .i64 to] R [] (.agg ⟨msgC { Msg.zero with kind := kd, frm := x.id, to := to, term := x.g.term } (.slice none 0 0)⟩) := by
  refine Tri.q2 ?_
  refine tri_of Tryz.func78 rfl Tryz.ntmps78 rfl (fun σ F Q hret hend hpan => ?_)
  try simp only [cA, nA]
  refine cj_seq fun K1 hK1 => cj_region ?_
  refine rj_box (wn0 rfl) rfl rfl rfl (fun b3 => ?_)
  refine rj_alloc (wn0 rfl) rfl Tryz.zeroValue48 rfl (fun b6 => ?_)
  refine rj_nil (hK1 _ _ _ (cj_seq fun K2 hK2 => cj_region ?_))
  refine Pm ?_
  refine Pa (Ga Tryz.underlying37 Tryz.sizeOf3) ?_
  first | refine Pa (La o3) ?_ | refine Pa (Ls o3) ?_
  refine Pm ?_
  refine Pa (Ga Tryz.underlying37 Tryz.sizeOf34) ?_
  refine Pa (Ga Tryz.underlying34 Tryz.sizeOf31) ?_
  first | refine Pa (La o31) ?_ | refine Pa (Ls o31) ?_
  refine Pa (y_build (cells := [_, _, _, _, _, _, _, _, _, _]) [(0, 1), (1, 1), (2, 1), (3, 1), (4, 1), (5, 1), (6, 1), (7, 1), (8, 1), (9, 1)] Tryz.underlying48 Tryz.zeroValue48 (fun _ => rfl) rfl rfl) ?_
  refine rj_stores m48 rfl (wn0 rfl) rfl rfl (by (first | (simp [Value.oneCell']; done) | (intro u hu; simp only [List.mem_cons, List.not_mem_nil, or_false] at hu; rcases hu with rfl | rfl | rfl | rfl <;> first | rfl | assumption))) fd_ (by (simp)) rfl ?_
  refine rj_nil (hK2 _ _ _ (cj_ret (hret _ _ _ ?_)))
  refine Ea Tryz.results78 (.cons (rv_cells m48 rfl fd_ rfl rfl) .nil) [] le_ ?_
  exact ⟨rfl, rfl⟩
theorem rlastTerm_q {R : Hp} (v : RW) (x : ND) (hg : x.g.ok) (hva : FrX entE R x.g.all v.va) : QTri Tryz.prog 77 [.agg ⟨rnC v x⟩] R [] (.int .u64 (x.tAt x.g.last)) := by
  have hlb := LG.last_b hg
  refine Tri.q2 ?_
  refine tri_of Tryz.func77 rfl Tryz.ntmps77 rfl (fun σ F Q hret hend hpan => ?_)
  try simp only [cA, nA]
  refine cj_seq fun K1 hK1 => cj_region ?_
  refine rj_box (wn0 rfl) rfl rfl rfl (fun b1 => ?_)
  refine Ps ?_
  refine rj_nil (hK1 _ _ _ (cj_seq fun K2 hK2 => ?_))
  refine cj_draw (by kernel_rfl) (by kernel_rfl) ?_
  refine Qa (Ga Tryz.underlying37 Tryz.sizeOf34) ?_
  refine Qa ((Lb (vs := rlC v.va x.g) m34)) ?_
  refine Qa (Ga Tryz.underlying37 Tryz.sizeOf34) ?_
  refine Qa ((Lb (vs := rlC v.va x.g) m34)) ?_
  refine Qa (Ca Tryz.call75 (rlLast_q v.va x.g hg hva)) ?_
  refine Qa (Ca Tryz.call88 ((rlTermAt_q v.va x.g hg hva x.g.last (by unfold u64B; omega)).eq2 (numV_eq _))) ?_
  refine Qa (y_move rfl) ?_
  refine Qa (y_extract rfl rfl) ?_
  refine Qa (y_extract rfl rfl) ?_
  refine Qa (y_assign rfl) ?_
  refine Qa (y_assign rfl) ?_
  refine qj_nil ?_
  refine hK2 _ _ _ (cj_seq fun K3 hK3 => cj_region ?_)
  refine Pm ?_
  refine Ps ?_
  refine rj_nil (hK3 _ _ _ (cj_ret (hret _ _ _ ?_)))
  refine Ea Tryz.results77 (.cons (rv_tmp rfl) .nil) [] le_ ?_
  exact ⟨rfl, rfl⟩
theorem rfollows_q {R : Hp} (v : RW) (x : ND) (m : Msg) (hv : RNOk R v x) : QTri Tryz.prog 81 [.agg ⟨rnC v x⟩, .int .i64 m.frm] R [] (.agg ⟨rnC v (x.follows m)⟩) := by
  have ho : ∀ u ∈ rnC v (x.follows m), u.oneCell' = true := rnC_one (R := R) (x := x.follows m) ⟨hv.va, hv.vv, hv.vn, hv.vm, fun h => absurd (show (0 : Int) = 1 from h) (by decide), fun h => absurd (show (0 : Int) = 2 from h) (by decide), fun h => absurd (show (0 : Int) = 2 from h) (by decide)⟩
  refine Tri.q2 ?_
  refine tri_of Tryz.func81 rfl Tryz.ntmps81 rfl (fun σ F Q hret hend hpan => ?_)
  try simp only [cA, nA]
  refine cj_seq fun K1 hK1 => cj_region ?_
  refine rj_box (wn0 rfl) rfl rfl rfl (fun b2 => ?_)
  refine rj_alloc (wn0 rfl) rfl Tryz.zeroValue37 rfl (fun b4 => ?_)
  refine rj_nil (hK1 _ _ _ (cj_seq fun K2 hK2 => cj_region ?_))
  refine Pa (Ga Tryz.underlying37 Tryz.sizeOf3) ?_
  refine Sa o3 ?_
  refine rj_nil (hK2 _ _ _ (cj_seq fun K3 hK3 => cj_region ?_))
  refine Pm ?_
  refine Pa (Ga Tryz.underlying37 Tryz.sizeOf3) ?_
  refine Sa o3 ?_
  refine rj_nil (hK3 _ _ _ (cj_seq fun K4 hK4 => cj_region ?_))
  refine Pa (Ga Tryz.underlying37 Tryz.sizeOf3) ?_
  refine Sa o3 ?_
  refine rj_nil (hK4 _ _ _ (cj_seq fun K5 hK5 => cj_region ?_))
  refine Pa ((Lm (vs := rnC v (x.follows m)) m37)) ?_
  refine Sm (vs := rnC v (x.follows m)) m37 ho ?_
  refine rj_nil (hK5 _ _ _ (cj_ret (hret _ _ _ ?_)))
  refine Ea Tryz.results81 (.cons (rv_cells m37 rfl fd_ rfl rfl) .nil) [] le_ ?_
  exact ⟨rfl, rfl⟩
theorem rappended_t {R : Hp} (v : RW) (x : ND) (m : Msg) (ok : Bool) (i : Int) (hv : RNOk R v x) : Tri Tryz.prog 80 [.agg ⟨rnC v x⟩, .int .i64 m.frm, .bool ok, .int .u64 i] R [] (fun r R' L' => FrX msgE R' [(x.stamp { Msg.zero with kind := 3, to := m.frm, ok := ok, index := i })] r ∧ L' = []) := by
  have ho := rnC_one hv
  refine tri_of Tryz.func80 rfl Tryz.ntmps80 rfl (fun σ F Q hret hend hpan => ?_)
  try simp only [cA, nA]
  refine cj_seq fun K1 hK1 => cj_region ?_
  refine rj_box (wn0 rfl) rfl rfl rfl (fun b4 => ?_)
  refine Ps ?_
  refine rj_nil (hK1 _ _ _ (cj_seq fun K2 hK2 => cj_region ?_))
  refine Pa ((Lm (vs := rnC v x) m37)) ?_
  refine Pm ?_
  refine Pa (Ca Tryz.call78 (rmsg_q v x 3 m.frm)) ?_
  refine rj_alloc (wn0 rfl) rfl Tryz.zeroValue48 rfl (fun b9 => ?_)
  refine Sm (vs := msgC { Msg.zero with kind := 3, frm := x.id, to := m.frm, term := x.g.term } (.slice none 0 0)) m48 (msgC_one rfl) ?_
  refine rj_nil (hK2 _ _ _ (cj_seq fun K3 hK3 => cj_region ?_))
  refine Pm ?_
  refine Pa (Ga Tryz.underlying48 Tryz.sizeOf4) ?_
  refine Sa o4 ?_
  refine rj_nil (hK3 _ _ _ (cj_seq fun K4 hK4 => cj_region ?_))
  refine Pm ?_
  refine Pa (Ga Tryz.underlying48 Tryz.sizeOf31) ?_
  refine Sa o31 ?_
  refine rj_nil (hK4 _ _ _ (cj_seq fun K5 hK5 => cj_region ?_))
  refine Pa ((Lm (vs := msgC (x.stamp { Msg.zero with kind := 3, to := m.frm, ok := ok, index := i }) (.slice none 0 0)) m48)) ?_
  refine rj_buildSlice (sz := 10) (wn0 rfl) rfl Tryz.underlying28 Tryz.sizeOf48 Tryz.zeroValue48 rfl rfl rfl (by decide) (by decide) (fun b18 => ?_)
  refine rj_freeze (e := 48) (sz := 10) (n := 1) (v := .slice (some ⟨b18, 0, none⟩) 1 1) (xs := [msgC (x.stamp { Msg.zero with kind := 3, to := m.frm, ok := ok, index := i }) (.slice none 0 0)].flatten) fd_ (fun R3 hR3 hfr hxl => ?_)
  have hfx : FrX msgE R3 [(x.stamp { Msg.zero with kind := 3, to := m.frm, ok := ok, index := i })] (.slice (some ⟨b18, 0, none⟩) 1 1) := FrozenS.frx (l := [(x.stamp { Msg.zero with kind := 3, to := m.frm, ok := ok, index := i })]) hfr (Els.single (T := msgE) (y := (x.stamp { Msg.zero with kind := 3, to := m.frm, ok := ok, index := i })) ⟨.slice none 0 0, rfl, FrX.nil⟩)
  refine Ps ?_
  refine rj_nil (hK5 _ _ _ (cj_ret (hret _ _ _ ?_)))
  apply ej_ret Tryz.results80 (.cons (rv_tmp rfl) .nil) _ [] hR3 rfl
  case hp => exact ⟨hfx, rfl⟩
  case hS => exact sb_
theorem u64_at {R : Hp} {l : List Int} {v : Value} (h : FrX u64E R l v) {i : Nat} (hi : i < l.length) : ∃ b off cap, v = .slice (some ⟨b, off, none⟩) l.length cap ∧ Hp.cell R ⟨b, off + i * 1, none⟩ = some (.int .u64 (l.getD i 0)) := by
  obtain ⟨b, off, cap, cs, e, rfl, _, hc⟩ := h.at (List.getElem?_eq_getElem hi)
  refine ⟨b, off, cap, e, ?_⟩
  have := hc 0 _ rfl
  rw [List.getD_eq_getElem?_getD, List.getElem?_eq_getElem hi]
  exact this
theorem nxt_map (x : ND) (i : Nat) : (x.peers.map (·.1)).getD i 0 = x.nxt i := by
  unfold ND.nxt
  simp only [List.getD_eq_getElem?_getD, List.getElem?_map]
  cases x.peers[i]? <;> rfl
theorem mat_map (x : ND) (i : Nat) : (x.peers.map (·.2)).getD i 0 = x.mat i := by
  unfold ND.mat
  simp only [List.getD_eq_getElem?_getD, List.getElem?_map]
  cases x.peers[i]? <;> rfl
theorem rfeed_t {R : Hp} (v : RW) (x : ND) (k : Nat) (hk : k ≤ 90) (hx : NIn k x) (hv : RNOk R v x) (hr : x.role = 2) (to : Nat) (hto : to < x.n) :
    Tri Tryz.prog 103 [.agg ⟨rnC v x⟩, .int .i64 (to : Int)] R [] (fun r R' L' => (∃ ve, r = .agg ⟨msgC (x.stamp (x.feedMsg to)) ve⟩ ∧ FrX entE R' (x.feedMsg to).es ve) ∧ L' = []) := by
  have hg := hx.g (by omega)
  have hva := hv.va
  have hb := hx.base
  have hal := hx.alln
  have hle : x.g.last = x.g.base + x.g.all.length := rfl
  have hpl := hx.peers hr
  have hto2 : to < x.peers.length := by omega
  obtain ⟨hp1, hp2⟩ := peer_b hx hto2
  obtain ⟨bn, on, cn, hvn, hnc⟩ := u64_at (hv.next hr) (i := to) (by simpa using hto2)
  rw [nxt_map, List.length_map] at *
  have ho := rnC_one hv
  refine tri_of Tryz.func103 rfl Tryz.ntmps103 rfl (fun σ F Q hret hend hpan => ?_)
  try simp only [cA, nA]
  refine cj_seq fun K1 hK1 => cj_region ?_
  refine rj_box (wn0 rfl) rfl rfl rfl (fun b2 => ?_)
  refine rj_alloc (wn0 rfl) rfl Tryz.zeroValue48 rfl (fun b4 => ?_)
  refine rj_nil (hK1 _ _ _ (cj_seq fun K2 hK2 => cj_region ?_))
  refine Pa (Ga Tryz.underlying37 Tryz.sizeOf35) ?_
  refine Pa ((Yld.to (u := .slice (some ⟨bn, on, none⟩) x.peers.length cn) (La o35) hvn)) ?_
  refine Pm ?_
  refine Pa ((y_indexAddr Tryz.underlying35 Tryz.sizeOf31 rfl rfl (by omega))) ?_
  refine Pa ((y_load_ro o31 rfl (by rw [show ((to : Nat) : Int).toNat = to by simp]; exact hnc))) ?_
  refine Ps ?_
  refine rj_nil (hK2 _ _ _ (cj_seq fun K3 hK3 => cj_seq fun K4 hK4 => cj_region ?_))
  refine Pm ?_
  refine Pa (Ga Tryz.underlying37 Tryz.sizeOf34) ?_
  refine Pa (Ga Tryz.underlying34 Tryz.sizeOf31) ?_
  first | refine Pa (La o31) ?_ | refine Pa (Ls o31) ?_
  refine Pa (y_leq rfl rfl) ?_
  refine rj_nil (hK4 _ _ _ ?_)
  refine cj_cond rfl (fun hc20 => ?_) (fun hc20 => ?_)
  have f1 : x.nxt to ≤ x.g.base := by simpa using hc20
  have e1 := feedMsg_snap f1
  refine cj_seq fun K6 hK6 => cj_region ?_
  refine Pa ((Lm (vs := rnC v x) m37)) ?_
  refine Pm ?_
  refine Pa (Ca Tryz.call78 (rmsg_q v x 4 to)) ?_
  refine rj_alloc (wn0 rfl) rfl Tryz.zeroValue48 rfl (fun b6 => ?_)
  refine Sm (vs := msgC { Msg.zero with kind := 4, frm := x.id, to := to, term := x.g.term } (.slice none 0 0)) m48 (msgC_one rfl) ?_
  refine rj_nil (hK6 _ _ _ (cj_seq fun K7 hK7 => cj_region ?_))
  refine Pa (Ga Tryz.underlying37 Tryz.sizeOf34) ?_
  refine Pa (Ga Tryz.underlying34 Tryz.sizeOf31) ?_
  first | refine Pa (La o31) ?_ | refine Pa (Ls o31) ?_
  refine Pa (Ga Tryz.underlying48 Tryz.sizeOf31) ?_
  refine Sa o31 ?_
  refine rj_nil (hK7 _ _ _ ?_)
  refine cj_env (eL 2 rfl (eL 4 rfl (eL 6 rfl eN))) ?_
  refine cj_seq fun K8 hK8 => cj_region ?_
  refine Pa (Ga Tryz.underlying37 Tryz.sizeOf34) ?_
  refine Pa (Ga Tryz.underlying34 Tryz.sizeOf31) ?_
  first | refine Pa (La o31) ?_ | refine Pa (Ls o31) ?_
  refine Pa (Ga Tryz.underlying48 Tryz.sizeOf31) ?_
  refine Sa o31 ?_
  refine rj_nil (hK8 _ _ _ (cj_seq fun K9 hK9 => cj_region ?_))
  refine Pa (Ga Tryz.underlying37 Tryz.sizeOf34) ?_
  refine Pa (Ga Tryz.underlying34 Tryz.sizeOf9) ?_
  first | refine Pa (La o9) ?_ | refine Pa (Ls o9) ?_
  refine Pa (Ga Tryz.underlying48 Tryz.sizeOf9) ?_
  refine Sa o9 ?_
  refine rj_nil (hK9 _ _ _ (cj_seq fun K10 hK10 => cj_region ?_))
  refine Pa ((Lm (vs := msgC (x.stamp { Msg.zero with kind := 4, to := to, index := x.g.base, logTerm := x.g.baseT, state := x.g.state }) (.slice none 0 0)) m48)) ?_
  refine Sm (vs := msgC (x.stamp { Msg.zero with kind := 4, to := to, index := x.g.base, logTerm := x.g.baseT, state := x.g.state }) (.slice none 0 0)) m48 (msgC_one rfl) ?_
  refine rj_nil (hK10 _ _ _ (cj_ret (hret _ _ _ ?_)))
  refine Ea Tryz.results103 (.cons (rv_cells m48 rfl fd_ rfl rfl) .nil) [] (by first | exact Hp.le_refl _ | exact hR3) ?_
  rw [e1]; exact ⟨⟨_, rfl, FrX.nil⟩, rfl⟩
  have f1 : ¬ x.nxt to ≤ x.g.base := by simpa using hc20
  have e1 := feedMsg_app f1
  obtain ⟨s, hs⟩ : ∃ s : Nat, x.nxt to = x.g.base + 1 + s := ⟨(x.nxt to - x.g.base - 1).toNat, by omega⟩
  have hs2 : (x.nxt to - x.g.base - 1).toNat = s := by omega
  rw [hs2] at e1
  refine cj_skip (hK3 _ _ _ (cj_seq fun K11 hK11 => cj_region ?_))
  refine Pa ((Lm (vs := rnC v x) m37)) ?_
  refine Pm ?_
  refine Pa (Ca Tryz.call78 (rmsg_q v x 2 to)) ?_
  refine rj_alloc (wn0 rfl) rfl Tryz.zeroValue48 rfl (fun b7 => ?_)
  refine Sm (vs := msgC { Msg.zero with kind := 2, frm := x.id, to := to, term := x.g.term } (.slice none 0 0)) m48 (msgC_one rfl) ?_
  refine rj_nil (hK11 _ _ _ (cj_seq fun K12 hK12 => cj_region ?_))
  refine Pm ?_
  refine Pa ((y_subu rfl rfl (by omega))) ?_
  refine Pa (Ga Tryz.underlying48 Tryz.sizeOf31) ?_
  refine Sa o31 ?_
  refine rj_nil (hK12 _ _ _ (cj_seq fun K13 hK13 => cj_region ?_))
  refine Pa (Ga Tryz.underlying37 Tryz.sizeOf34) ?_
  refine Pa ((Lb (vs := rlC v.va x.g) m34)) ?_
  refine Pm ?_
  refine Pa ((y_subu rfl rfl (by omega))) ?_
  refine Pa (Ca Tryz.call88 ((rlTermAt_q v.va x.g hg hva (x.nxt to - 1) (by unfold u64B; omega)).eq2 (numV_eq _))) ?_
  refine Pm ?_
  refine Pa (y_extract rfl rfl) ?_
  refine Pa (y_extract rfl rfl) ?_
  refine Pa (Ga Tryz.underlying48 Tryz.sizeOf31) ?_
  refine Sa o31 ?_
  refine rj_nil (hK13 _ _ _ ?_)
  refine cj_env (eL 2 rfl (eL 4 rfl (eL 5 rfl (eL 7 rfl eN)))) ?_
  refine cj_seq fun K14 hK14 => cj_region ?_
  refine Pa (Ga Tryz.underlying37 Tryz.sizeOf31) ?_
  first | refine Pa (La o31) ?_ | refine Pa (Ls o31) ?_
  refine Pa (Ga Tryz.underlying48 Tryz.sizeOf31) ?_
  refine Sa o31 ?_
  refine rj_nil (hK14 _ _ _ (cj_seq fun K15 hK15 => ?_))
  have hJ17 : ∀ (x2 : Nat × Value), x2.2.oneCell' = true ∧ (x.g.all.drop s).take x2.1 = (x.g.all.drop s).take 8 → EJ ⟨Tryz.prog, 83, σ⟩ K15 [(4, .pointer (some ⟨b4, 0, none⟩)), (7, .pointer (some ⟨b7, 0, none⟩))] R (slc 60 2 x2.2 ((x.g.all.drop s).take x2.1).length (entsC ((x.g.all.drop s).take x2.1)) :: blk b7 (msgC { Msg.zero with kind := 2, frm := x.id, to := to, term := x.g.term, index := x.nxt to - 1, logTerm := x.tAt (x.nxt to - 1), commit := x.commit, es := [] } x2.2) 48 :: blk b4 (msgC Msg.zero (.slice none 0 0)) 48 :: F) := by
    rintro ⟨j, vl⟩ ⟨hvl, hfin⟩
    try dsimp only
    dsimp only at hvl hfin
    refine ej_freeze (e := 60) (sz := 2) (n := ((x.g.all.drop s).take j).length) (v := vl) (xs := entsC ((x.g.all.drop s).take j)) fd_ (fun R3 hR3 hfr hxl => ?_)
    have hfx := entsFr hfr
    rw [hfin] at hfx
    have hfo := hfx.one
    refine hK15 _ _ _ (cj_seq fun K16 hK16 => cj_region ?_)
    refine Pa ((Lm (vs := msgC { Msg.zero with kind := 2, frm := x.id, to := to, term := x.g.term, index := x.nxt to - 1, logTerm := x.tAt (x.nxt to - 1), commit := x.commit, es := (x.g.all.drop s).take 8 } vl) m48)) ?_
    refine Sm (vs := msgC { Msg.zero with kind := 2, frm := x.id, to := to, term := x.g.term, index := x.nxt to - 1, logTerm := x.tAt (x.nxt to - 1), commit := x.commit, es := (x.g.all.drop s).take 8 } vl) m48 (msgC_one hfo) ?_
    refine rj_nil (hK16 _ _ _ (cj_ret (hret _ _ _ ?_)))
    refine Ea Tryz.results103 (.cons (rv_cells m48 rfl fd_ rfl rfl) .nil) [] (by first | exact Hp.le_refl _ | exact hR3) ?_
    rw [e1]; exact ⟨⟨_, rfl, hfx⟩, rfl⟩
  refine cj_seq fun K17 hK17 => cj_region ?_
  refine Pa ((Yld.to (u := .int .u64 (x.nxt to + ((0 : Nat) : Int))) (y_move rfl) (by simp))) ?_
  refine Ps ?_
  refine rj_add (A := slc 60 2 (.slice none 0 0) 0 (entsC ([] : List Ent))) (slc_nil _ _) ?_
  refine rj_nil (hK17 _ _ _ (cj_block ?_))
  refine cj_env (E' := (fun (x1 : Nat × Value) => [(2, .pointer (some ⟨b2, 0, none⟩)), (4, .pointer (some ⟨b4, 0, none⟩)), (5, .int .u64 (x.nxt to)), (7, .pointer (some ⟨b7, 0, none⟩)), (8, .int .u64 (x.nxt to + x1.1))]) (0, .slice none 0 0)) (eC rfl (eC rfl (eC rfl (eC rfl (eC rfl eN))))) ?_
  refine cj_sub (M := (fun (x1 : Nat × Value) => slc 60 2 x1.2 ((x.g.all.drop s).take x1.1).length (entsC ((x.g.all.drop s).take x1.1)) :: blk b7 (msgC { Msg.zero with kind := 2, frm := x.id, to := to, term := x.g.term, index := x.nxt to - 1, logTerm := x.tAt (x.nxt to - 1), commit := x.commit, es := [] } x1.2) 48 :: blk b4 (msgC Msg.zero (.slice none 0 0)) 48 :: blk b2 (rnC v x) 37 :: F) (0, .slice none 0 0)) sb_ ?_
  refine cj_loop (fun (x1 : Nat × Value) => [(2, .pointer (some ⟨b2, 0, none⟩)), (4, .pointer (some ⟨b4, 0, none⟩)), (5, .int .u64 (x.nxt to)), (7, .pointer (some ⟨b7, 0, none⟩)), (8, .int .u64 (x.nxt to + x1.1))]) (fun (x1 : Nat × Value) => R) (fun (x1 : Nat × Value) => slc 60 2 x1.2 ((x.g.all.drop s).take x1.1).length (entsC ((x.g.all.drop s).take x1.1)) :: blk b7 (msgC { Msg.zero with kind := 2, frm := x.id, to := to, term := x.g.term, index := x.nxt to - 1, logTerm := x.tAt (x.nxt to - 1), commit := x.commit, es := [] } x1.2) 48 :: blk b4 (msgC Msg.zero (.slice none 0 0)) 48 :: blk b2 (rnC v x) 37 :: F) (fun (x1 : Nat × Value) => x1.1 ≤ 8 ∧ ((x.g.all.drop s).take x1.1).length = x1.1 ∧ x1.2.oneCell' = true) (fun (x1 : Nat × Value) => 8 - x1.1) (0, .slice none 0 0) (⟨by simp, by simp, rfl⟩) ?_
  rintro ⟨j, vl⟩ ⟨hj, hjl, hvl⟩
  try dsimp only
  dsimp only at hj hjl hvl
  refine cj_seq fun K18 hK18 => cj_seq fun K19 hK19 => cj_region ?_
  refine Pm ?_
  refine Pa (Ga Tryz.underlying37 Tryz.sizeOf34) ?_
  refine Pa ((Lb (vs := rlC v.va x.g) m34)) ?_
  refine Pa (Ca Tryz.call75 (rlLast_q v.va x.g hg hva)) ?_
  refine Pa (y_leq rfl rfl) ?_
  refine Pm ?_
  refine rj_part 61 rfl (fun hg61 => ?_) (fun hg61 => ?_)
  have g1 : x.nxt to + (j : Int) ≤ x.g.last := by simpa using hg61
  refine Pb (y_move rfl) ?_
  refine Pb (y_move rfl) ?_
  refine Pb ((y_addu rfl rfl (by omega))) ?_
  refine Pb (y_lss rfl rfl) ?_
  refine Pa (y_pick_t rfl rfl) ?_
  refine rj_nil (hK19 _ _ _ ?_)
  refine cj_cond rfl (fun hc66 => ?_) (fun hc66 => ?_)
  first|(have g2 : j < 8 := by (try simp at hc66); omega)|skip
  refine cj_skip (hK18 _ _ _ (cj_seq fun K21 hK21 => cj_block (cj_seq fun K22 hK22 => cj_region ?_)))
  have hlen : s + j < x.g.all.length := by omega
  obtain ⟨e, hsome⟩ : ∃ e, x.g.all[s + j]? = some e := ⟨_, List.getElem?_eq_getElem hlen⟩
  have hat := rlAt_q (R := R) v.va x.g hg hva (x.nxt to + j) (by unfold u64B; omega)
  rw [show x.g.at (x.nxt to + (j : Int)) = x.g.all[s + j]? by rw [show x.nxt to + (j : Int) = x.g.base + 1 + ((s + j : Nat) : Int) by omega, LG.at_k], hsome] at hat
  have htk : ((x.g.all.drop s).take (j + 1)).length = j + 1 := by simp; omega
  have hdr : (x.g.all.drop s)[j]? = some e := by rw [List.getElem?_drop]; exact hsome
  refine Pa (Ga Tryz.underlying37 Tryz.sizeOf34) ?_
  refine Pa ((Lb (vs := rlC v.va x.g) m34)) ?_
  refine Pm ?_
  refine Pa (Ca Tryz.call105 (hat)) ?_
  refine Pm ?_
  refine Pa (y_extract rfl rfl) ?_
  refine Pa (y_extract rfl rfl) ?_
  refine rj_alloc (wn0 rfl) rfl Tryz.zeroValue60 rfl (fun b9 => ?_)
  refine Sm (vs := entC e) m60 (entE.one (R := R) (x := e) rfl) ?_
  refine Ps ?_
  refine rj_nil (hK22 _ _ _ ?_)
  refine cj_env (eL 2 rfl (eL 4 rfl (eL 5 rfl (eL 7 rfl (eL 8 rfl (eL 9 rfl eN)))))) ?_
  refine cj_region ?_
  refine Pa (Ga Tryz.underlying48 Tryz.sizeOf32) ?_
  first | refine Pa (La o32) ?_ | refine Pa (Ls o32) ?_
  refine Pa ((Lm (vs := entC e) m60)) ?_
  refine rj_buildSlice (sz := 2) (wn0 rfl) rfl Tryz.underlying32 Tryz.sizeOf60 Tryz.zeroValue60 rfl rfl rfl (by decide) (by decide) (fun b79 => ?_)
  refine rj_append (sz := 2) (by_ := 24) ⟨Tryz.underlying32, _, _, rfl, rfl, rfl, rfl, rfl⟩ (wn0 rfl) rfl rfl rfl fd_ (src_slc (xs := entC e) Tryz.underlying32 fd_ (entE.one (R := R) (x := e) rfl)) rfl om_ (by simp only [maxLen]; omega) (fun v80 ho80 hh80 => ?_)
  rw [show entsC ((x.g.all.drop s).take j) ++ entC e = entsC ((x.g.all.drop s).take (j + 1)) by unfold entsC; rw [map_snoc hdr]; simp, show ((x.g.all.drop s).take j).length + 1 = ((x.g.all.drop s).take (j + 1)).length by rw [htk, hjl]]
  refine Pa (Ga Tryz.underlying48 Tryz.sizeOf32) ?_
  refine Sa o32 ?_
  refine rj_nil (hK21 _ _ _ (cj_region ?_))
  refine Pm ?_
  refine Pa ((Yld.to (u := .int .u64 (x.nxt to + ((j + 1 : Nat) : Int))) (y_addu rfl rfl (by omega)) (by congr 1; omega))) ?_
  refine Ps ?_
  refine rj_nil ?_
  refine ej_on (q' := roundK _ _ _ _ _ _ _) rfl ?_
  refine ej_round ((j + 1, v80)) (⟨by dsimp only; omega, htk, by assumption⟩) (by dsimp only; omega) (eC rfl (eC rfl (eC rfl (eC rfl (eC rfl eN))))) rfl sb_
  first|(have hfin : (x.g.all.drop s).take j = (x.g.all.drop s).take 8 := by rw [show j = 8 by (try simp at hc66); omega])|skip
  refine cj_exit ?_
  refine ej_join hJ17 ((j, vl)) (⟨hvl, hfin⟩) (eC rfl (eC rfl eN)) rfl sb_
  have g1 : ¬ x.nxt to + (j : Int) ≤ x.g.last := by simpa using hg61
  have hfin : (x.g.all.drop s).take j = (x.g.all.drop s).take 8 := by rw [List.take_of_length_le (by simp; omega), List.take_of_length_le (by simp; omega)]
  refine Pk ?_
  refine Pk ?_
  refine Pk ?_
  refine Pk ?_
  refine Pa (y_pick_f rfl rfl) ?_
  refine rj_nil (hK19 _ _ _ (cj_cond_f rfl (cj_exit ?_)))
  refine ej_join hJ17 ((j, vl)) (⟨hvl, hfin⟩) (eC rfl (eC rfl eN)) rfl sb_
structure LIn (T I : Int) (A : Nat) (x : ND) : Prop where
  idn : x.id < x.n ∧ x.n ≤ 9
  down : x.down = false
  term : 0 ≤ x.g.term ∧ x.g.term ≤ T
  vote : -1 ≤ x.g.vote ∧ x.g.vote < 9
  base : 0 ≤ x.g.base
  baseT : 0 ≤ x.g.baseT ∧ x.g.baseT ≤ T
  last : x.g.last ≤ I
  state : x.g.state.length ≤ 1000000
  alln : x.g.all.length ≤ A
  all : ∀ e ∈ x.g.all, (0 ≤ e.1 ∧ e.1 ≤ T) ∧ e.2.length ≤ 100
  commit : x.g.base ≤ x.commit ∧ x.commit ≤ x.g.last
  patience : 0 ≤ x.patience ∧ x.patience ≤ 30
  peers : x.role = 2 → x.peers.length = x.n
  peer : ∀ p ∈ x.peers, (1 ≤ p.1 ∧ p.1 ≤ I + 1) ∧ (0 ≤ p.2 ∧ p.2 ≤ I)
  pl : x.role = 2 → ∀ p ∈ x.peers, p.2 ≤ x.g.last
  votes : x.votes.Nodup ∧ ∀ i ∈ x.votes, 0 ≤ i ∧ i < (x.n : Int)
theorem LIn.mono {T T' I I' : Int} {A A' : Nat} {x : ND} (h : LIn T I A x) (hT : T ≤ T') (hI : I ≤ I') (hA : A ≤ A') : LIn T' I' A' x :=
  ⟨h.idn, h.down, ⟨h.term.1, Int.le_trans h.term.2 hT⟩, h.vote, h.base, ⟨h.baseT.1, Int.le_trans h.baseT.2 hT⟩, Int.le_trans h.last hI, h.state, Nat.le_trans h.alln hA, fun e he => ⟨⟨(h.all e he).1.1, Int.le_trans (h.all e he).1.2 hT⟩, (h.all e he).2⟩, h.commit, h.patience, h.peers, fun p hp => ⟨⟨(h.peer p hp).1.1, by have := (h.peer p hp).1.2; omega⟩, ⟨(h.peer p hp).2.1, Int.le_trans (h.peer p hp).2.2 hI⟩⟩, h.pl, h.votes⟩
theorem LIn.nin {T I : Int} {A : Nat} {x : ND} (h : LIn T I A x) (k : Nat) (hT : T ≤ 2305843009213693952) (hI : I ≤ 100000000000000) (hA : A ≤ 80000) (ho : x.out.length ≤ 20 * k) : NIn k x :=
  ⟨h.idn, ⟨h.term.1, by have := h.term.2; omega⟩, h.vote, ⟨h.base, by have := h.last; have := h.commit; omega⟩, ⟨h.baseT.1, by have := h.baseT.2; omega⟩, h.state, by have := h.alln; omega, fun e he => ⟨⟨(h.all e he).1.1, by have := (h.all e he).1.2; omega⟩, (h.all e he).2⟩, by have := h.base; have := h.last; have := h.commit; omega, by have := h.patience; omega, h.peers, fun p hp => by have := h.peer p hp; omega, h.votes, ho⟩
structure TR (x y : ND) : Prop where
  id : y.id = x.id
  n : y.n = x.n
  com : x.commit ≤ y.commit
  base : x.g.base ≤ y.g.base
  at_ : ∀ i, y.g.base < i → i ≤ x.commit → y.g.at i = x.g.at i
  vr : x.g.term < y.g.term ∨ (x.g.term = y.g.term ∧ (x.g.vote = -1 ∨ x.g.vote = y.g.vote))
theorem TR.same {x y : ND} (hg : y.g = x.g) (h1 : y.id = x.id) (h2 : y.n = x.n) (h3 : x.commit ≤ y.commit) : TR x y :=
  ⟨h1, h2, h3, by rw [hg]; exact Int.le_refl _, fun i _ _ => by rw [hg], .inr ⟨by rw [hg], .inr (by rw [hg])⟩⟩
theorem TR.rfl {x : ND} : TR x x := TR.same (Eq.refl _) (Eq.refl _) (Eq.refl _) (Int.le_refl _)
theorem TR.trans {x y z : ND} (h : TR x y) (k : TR y z) : TR x z :=
  ⟨k.id.trans h.id, k.n.trans h.n, Int.le_trans h.com k.com, Int.le_trans h.base k.base, fun i hi hc => by
    have h1 := k.base
    have h2 := h.com
    rw [k.at_ i hi (by omega), h.at_ i (by omega) hc], by
    have h1 := h.vr
    have h2 := k.vr
    omega⟩
structure LT (T I : Int) (A : Nat) (x y : ND) : Prop where
  inn : LIn T I A y
  tr : TR x y
theorem LT.rfl {T I : Int} {A : Nat} {x : ND} (h : LIn T I A x) : LT T I A x x := ⟨h, TR.rfl⟩
theorem LT.trans {T I T' I' : Int} {A A' : Nat} {x y z : ND} (h : LT T I A x y) (k : LT T' I' A' y z) : LT T' I' A' x z := ⟨k.inn, h.tr.trans k.tr⟩
theorem LT.mono {T T' I I' : Int} {A A' : Nat} {x y : ND} (h : LT T I A x y) (hT : T ≤ T') (hI : I ≤ I') (hA : A ≤ A') : LT T' I' A' x y := ⟨h.inn.mono hT hI hA, h.tr⟩
theorem LIn.sends {T I : Int} {A : Nat} {x : ND} (h : LIn T I A x) (l : List Msg) : LIn T I A { x with out := l } :=
  ⟨h.idn, h.down, h.term, h.vote, h.base, h.baseT, h.last, h.state, h.alln, h.all, h.commit, h.patience, h.peers, h.peer, h.pl, h.votes⟩
theorem LT.sent {T I : Int} {A : Nat} {x y : ND} (h : LT T I A x y) (l : List Msg) : LT T I A x { y with out := l } :=
  ⟨h.inn.sends l, h.tr.trans (TR.same (Eq.refl _) (Eq.refl _) (Eq.refl _) (Int.le_refl _))⟩
theorem LT.out {T I : Int} {A : Nat} {x y : ND} {l : List Msg} (h : LT T I A { x with out := l } y) : LT T I A x y := ⟨h.inn, TR.trans (y := { x with out := l }) (TR.same (Eq.refl _) (Eq.refl _) (Eq.refl _) (Int.le_refl _)) h.tr⟩
theorem play_last {g : LG} {i : Int} {m : List Ent} (hi : g.base ≤ i ∧ i ≤ g.last) : (g.play (.add i m)).last = i + m.length := by
  unfold LG.play LG.last at *
  simp; omega
theorem at_in {g : LG} {i : Int} (h : g.base < i ∧ i ≤ g.last) : g.at i = g.all[(i - g.base - 1).toNat]? := by unfold LG.at; rw [if_pos h]
theorem at_out {g : LG} {i : Int} (h : ¬ (g.base < i ∧ i ≤ g.last)) : g.at i = none := by unfold LG.at; rw [if_neg h]
theorem play_at {g : LG} {i j : Int} {m : List Ent} (hi : g.base ≤ i ∧ i ≤ g.last) (hj : j ≤ i) : (g.play (.add i m)).at j = g.at j := by
  have h1 := play_last (m := m) hi
  have hb : (g.play (.add i m)).base = g.base := rfl
  by_cases h2 : g.base < j
  · rw [at_in (g := g) (by omega), at_in (by omega), hb]
    show (g.all.take (i - g.base).toNat ++ m)[_]? = _
    unfold LG.last at hi
    rw [List.getElem?_append_left (by simp; omega), List.getElem?_take_of_lt (by omega)]
  · rw [at_out (g := g) (by omega), at_out (by omega)]
theorem LIn.add {T I : Int} {A : Nat} {x : ND} (h : LIn T I A x) {i : Int} {m : List Ent} (hi : x.commit ≤ i ∧ i ≤ x.g.last) (hr : x.role = 2 → i = x.g.last) (hm : ∀ e ∈ m, (0 ≤ e.1 ∧ e.1 ≤ T) ∧ e.2.length ≤ 100) : LT T (I + m.length) (A + m.length) x { x with g := x.g.play (.add i m) } := by
  have hc := h.commit
  have hI := h.last
  have hA := h.alln
  have hl := play_last (g := x.g) (i := i) (m := m) (by omega)
  refine ⟨⟨h.idn, h.down, h.term, h.vote, h.base, h.baseT, by show (x.g.play (.add i m)).last ≤ _; rw [hl]; omega, h.state, ?_, ?_, ⟨hc.1, by show _ ≤ (x.g.play (.add i m)).last; rw [hl]; show x.commit ≤ _; omega⟩, h.patience, h.peers, fun p hp => by have := h.peer p hp; omega, fun hr2 p hp => ?_, h.votes⟩, ?_⟩
  · show (x.g.all.take _ ++ m).length ≤ _
    simp; omega
  · intro e he
    rcases List.mem_append.1 (show e ∈ x.g.all.take _ ++ m from he) with he | he
    · exact h.all e (List.mem_of_mem_take he)
    · exact hm e he
  · show _ ≤ (x.g.play (.add i m)).last
    have h1 := h.pl hr2 p hp
    have h2 := hr hr2
    rw [hl]; omega
  · exact ⟨Eq.refl _, Eq.refl _, Int.le_refl _, Int.le_refl _, fun j _ hj => play_at (by omega) (by omega), .inr ⟨Eq.refl _, .inr (Eq.refl _)⟩⟩
theorem LIn.set {T I : Int} {A : Nat} {x : ND} (h : LIn T I A x) {t v : Int} (ht : 0 ≤ t ∧ t ≤ T) (hv : -1 ≤ v ∧ v < 9) (hvr : x.g.term < t ∨ (x.g.term = t ∧ (x.g.vote = -1 ∨ x.g.vote = v))) : LT T I A x { x with g := { x.g with term := t, vote := v } } :=
  ⟨⟨h.idn, h.down, ht, hv, h.base, h.baseT, h.last, h.state, h.alln, h.all, h.commit, h.patience, h.peers, h.peer, h.pl, h.votes⟩, ⟨Eq.refl _, Eq.refl _, Int.le_refl _, Int.le_refl _, fun _ _ _ => Eq.refl _, hvr⟩⟩
theorem mid_last {x : ND} (hid : x.id < x.n) (h : ∀ p ∈ x.peers, p.2 ≤ x.g.last) (h0 : 0 ≤ x.g.last) : x.mid ≤ x.g.last := by
  have hm := mid_mem hid
  unfold ND.reach at hm
  rcases List.mem_cons.1 hm with hm | hm
  · omega
  · obtain ⟨i, _, hi⟩ := List.mem_map.1 hm
    rw [← hi]
    unfold ND.mat
    by_cases h1 : i < x.peers.length
    · exact h _ (by rw [List.getD_eq_getElem?_getD, List.getElem?_eq_getElem h1]; simp)
    · rw [List.getD_eq_getElem?_getD, List.getElem?_eq_none (by omega)]; exact h0
theorem LIn.count {T I : Int} {A : Nat} {x : ND} (h : LIn T I A x) (hr : x.role = 2) : LT T I A x x.count := by
  have h0 := h.base
  have hc := h.commit
  have hm := mid_last h.idn.1 (h.pl hr) (by omega)
  unfold ND.count
  split
  · rename_i h1
    exact ⟨⟨h.idn, h.down, h.term, h.vote, h.base, h.baseT, h.last, h.state, h.alln, h.all, ⟨by show x.g.base ≤ x.mid; omega, hm⟩, h.patience, h.peers, h.peer, h.pl, h.votes⟩, TR.same (Eq.refl _) (Eq.refl _) (Eq.refl _) (by show x.commit ≤ x.mid; omega)⟩
  · exact LT.rfl h
theorem LIn.entryP {T I : Int} {A : Nat} {x : ND} {cmd : Bs} (h : LIn T I A x) (hr : x.role = 2) (hc : cmd.length ≤ 100) : LT T (I + 1) (A + 1) x (x.entryP cmd) := by
  have h1 := h.add (i := x.g.last) (m := [(x.g.term, cmd)]) ⟨h.commit.2, Int.le_refl _⟩ (fun _ => Eq.refl _) (fun e he => by simp at he; subst he; exact ⟨h.term, hc⟩)
  have h2 := h1.trans (LIn.count h1.inn hr)
  unfold ND.entryP
  rw [feedAll_eq]
  exact h2.sent _
theorem LIn.wins {T I : Int} {A : Nat} {x : ND} (h : LIn T I A x) : LIn T I A x.wins := by
  have h0 := h.base
  have hc := h.commit
  have hl := h.last
  refine ⟨h.idn, h.down, h.term, h.vote, h.base, h.baseT, h.last, h.state, h.alln, h.all, h.commit, ⟨by show (0 : Int) ≤ 0; omega, by show (0 : Int) ≤ 30; omega⟩, fun _ => by simp [ND.wins], ?_, ?_, h.votes⟩
  · intro p hp
    obtain ⟨_, rfl⟩ := List.mem_replicate.1 (show p ∈ List.replicate x.n (x.g.last + 1, 0) from hp)
    dsimp only; omega
  · intro _ p hp
    obtain ⟨_, rfl⟩ := List.mem_replicate.1 (show p ∈ List.replicate x.n (x.g.last + 1, 0) from hp)
    show 0 ≤ x.g.last; omega
theorem LIn.winP {T I : Int} {A : Nat} {x : ND} (h : LIn T I A x) : LT T (I + 1) (A + 1) x x.winP := by
  have h1 := LIn.entryP (cmd := []) h.wins (Eq.refl _) (by simp)
  exact ⟨h1.inn, TR.trans (TR.same (y := x.wins) (Eq.refl _) (Eq.refl _) (Eq.refl _) (Int.le_refl _)) h1.tr⟩
theorem LIn.stands {T I : Int} {A : Nat} {x : ND} (h : LIn T I A x) : LIn T I A x.stands := by
  have hid := h.idn
  refine ⟨h.idn, h.down, h.term, h.vote, h.base, h.baseT, h.last, h.state, h.alln, h.all, h.commit, ⟨by show (0 : Int) ≤ 0; omega, by show (0 : Int) ≤ 30; omega⟩, fun hr => absurd (show (1 : Int) = 2 from hr) (by decide), h.peer, fun hr => absurd (show (1 : Int) = 2 from hr) (by decide), by simp [ND.stands], fun i hi => ?_⟩
  have : i = (x.id : Int) := by simpa [ND.stands] using hi
  show 0 ≤ i ∧ i < (x.n : Int)
  omega
theorem LIn.standP {T I : Int} {A : Nat} {x : ND} (h : LIn T I A x) : LT (T + 1) (I + 1) (A + 1) x x.standP := by
  have hid := h.idn
  have ht := h.term
  have h1 := (h.mono (show T ≤ T + 1 by omega) (Int.le_refl _) (Nat.le_refl _)).set (t := x.g.term + 1) (v := x.id) (by omega) (by omega) (.inl (by omega))
  have h2 := h1.inn.stands
  have h3 : TR x (ND.stands { x with g := { x.g with term := x.g.term + 1, vote := x.id } }) := h1.tr.trans (TR.same (Eq.refl _) (Eq.refl _) (Eq.refl _) (Int.le_refl _))
  unfold ND.standP
  by_cases hn : x.n = 1
  · rw [if_pos hn]
    have h4 := LIn.winP h2
    exact ⟨h4.inn, h3.trans h4.tr⟩
  · rw [if_neg hn]
    unfold ND.askAll
    rw [asks_eq]
    exact LT.mono (LT.sent ⟨h2, h3⟩ _) (Int.le_refl _) (by omega) (by omega)
theorem LIn.pat {T I : Int} {A : Nat} {x : ND} (h : LIn T I A x) {p : Int} (hp : 0 ≤ p ∧ p ≤ 30) : LT T I A x { x with patience := p } :=
  ⟨⟨h.idn, h.down, h.term, h.vote, h.base, h.baseT, h.last, h.state, h.alln, h.all, h.commit, hp, h.peers, h.peer, h.pl, h.votes⟩, TR.same (Eq.refl _) (Eq.refl _) (Eq.refl _) (Int.le_refl _)⟩
theorem limit_b (i : Nat) (t : Int) : 10 ≤ limitI i t ∧ limitI i t ≤ 20 := by
  unfold limitI; omega
theorem LIn.tickP {T I : Int} {A : Nat} {x : ND} (h : LIn T I A x) : LT (T + 1) (I + 1) (A + 1) x x.tickP := by
  have hp := h.patience
  have hlm := limit_b x.id x.g.term
  unfold ND.tickP
  by_cases h1 : x.role = 2
  · rw [if_pos h1]
    by_cases h2 : x.patience + 1 ≥ 3
    · rw [if_pos h2, feedAll_eq]
      exact LT.mono ((h.pat (by omega)).sent _) (by omega) (by omega) (by omega)
    · rw [if_neg h2]
      exact LT.mono (h.pat (by omega)) (by omega) (by omega) (by omega)
  · rw [if_neg h1]
    by_cases h2 : x.patience + 1 ≥ limitI x.id x.g.term
    · rw [if_pos h2]
      have h3 := h.pat (p := 0) (by omega)
      have h4 := LIn.standP h3.inn
      have e : ND.standP { x with patience := x.patience + 1 } = ND.standP { x with patience := 0 } := Eq.refl _
      rw [e]
      exact h3.trans h4
    · rw [if_neg h2]
      exact LT.mono (h.pat (by omega)) (by omega) (by omega) (by omega)
structure MLn (T I : Int) (m : Msg) : Prop where
  term : 0 ≤ m.term ∧ m.term ≤ T
  index : 0 ≤ m.index ∧ m.index ≤ I
  logTerm : 0 ≤ m.logTerm ∧ m.logTerm ≤ T
  commit : 0 ≤ m.commit
  es : m.es.length ≤ 20 ∧ ∀ e ∈ m.es, (0 ≤ e.1 ∧ e.1 ≤ T) ∧ e.2.length ≤ 100
  state : m.state.length ≤ 1000000
theorem LIn.answer {T I : Int} {A : Nat} {x y : ND} (h : LT T I A x y) (m : Msg) (ok : Bool) (i : Int) : LT T I A x (y.answer m ok i) := h.sent _
theorem LIn.askedP {T I : Int} {A : Nat} {x : ND} {m : Msg} (h : LIn T I A x) (hm : 0 ≤ m.frm ∧ m.frm < x.n) : LT T I A x (x.askedP m) := by
  have hid := h.idn
  unfold ND.askedP
  by_cases h1 : x.grants m = true
  · rw [if_pos h1]
    have h1' := h1
    unfold ND.grants at h1'
    simp only [Bool.and_eq_true, Bool.or_eq_true, decide_eq_true_eq] at h1'
    obtain ⟨⟨⟨_, _⟩, hv⟩, _⟩ := h1'
    have h2 := h.set (t := x.g.term) (v := m.frm) h.term (by omega) (.inr ⟨Eq.refl _, hv⟩)
    have h3 := h2.trans (h2.inn.pat (p := 0) (by omega))
    exact h3.sent _
  · rw [if_neg h1]
    exact (LT.rfl h).sent _
theorem LIn.vote1 {T I : Int} {A : Nat} {x : ND} (h : LIn T I A x) {i : Int} (hi : 0 ≤ i ∧ i < (x.n : Int)) : LIn T I A { x with votes := setAdd x.votes i } :=
  ⟨h.idn, h.down, h.term, h.vote, h.base, h.baseT, h.last, h.state, h.alln, h.all, h.commit, h.patience, h.peers, h.peer, h.pl, setAdd_ok h.votes.1 i, fun j hj => by rcases setAdd_mem hj with hj | hj; exact h.votes.2 j hj; subst hj; exact hi⟩
theorem LIn.votedP {T I : Int} {A : Nat} {x : ND} {m : Msg} (h : LIn T I A x) (hm : 0 ≤ m.frm ∧ m.frm < x.n) : LT T (I + 1) (A + 1) x (x.votedP m) := by
  unfold ND.votedP
  have h1 : LT T I A x { x with votes := setAdd x.votes m.frm } := ⟨h.vote1 hm, TR.same (Eq.refl _) (Eq.refl _) (Eq.refl _) (Int.le_refl _)⟩
  split
  · exact LT.mono (LT.rfl h) (by omega) (by omega) (by omega)
  · split
    · have h2 := LIn.winP h1.inn
      exact h1.trans h2
    · exact LT.mono h1 (by omega) (by omega) (by omega)
theorem LIn.commits {T I : Int} {A : Nat} {x y : ND} (h : LT T I A x y) (m : Msg) {last : Int} (hl : last ≤ y.g.last) : LT T I A x (y.commits m last) := by
  have hc := h.inn.commit
  refine ⟨⟨h.inn.idn, h.inn.down, h.inn.term, h.inn.vote, h.inn.base, h.inn.baseT, h.inn.last, h.inn.state, h.inn.alln, h.inn.all, ⟨?_, ?_⟩, h.inn.patience, h.inn.peers, h.inn.peer, h.inn.pl, h.inn.votes⟩, h.tr.trans (TR.same (Eq.refl _) (Eq.refl _) (Eq.refl _) ?_)⟩
  · show y.g.base ≤ max y.commit (min m.commit last); omega
  · show max y.commit (min m.commit last) ≤ y.g.last; omega
  · show y.commit ≤ max y.commit (min m.commit last); omega
theorem fits_none {g : LG} : ∀ {l : List Ent} {i : Int}, ND.fits g l i = none → l = [] ∨ i + l.length - 1 ≤ g.last
  | [], _, _ => .inl (Eq.refl _)
  | e :: l, i, h => by
    by_cases h1 : (g.at i).map (·.1) = some e.1
    · rw [fits_yes h1] at h
      right
      cases h2 : g.at i with
      | none => rw [h2] at h1; cases h1
      | some e2 =>
        have h3 := at_last h2
        rcases fits_none h with h4 | h4
        · subst h4; simp; omega
        · simp; omega
    · rw [fits_no h1] at h; cases h
theorem LIn.restP {T I : Int} {A : Nat} {x : ND} {m : Msg} (h : LIn T I A x) (hr : ¬ x.role = 2) (hm : MLn T I m) (hc : x.g.base ≤ (x.cutM m).1 ∧ (x.cutM m).1 ≤ x.g.last) : LT T (I + 20) (A + 20) x (x.restP m (x.cutM m)) := by
  have hb3 : (x.cutM m).2.length ≤ 20 ∧ ∀ e ∈ (x.cutM m).2, (0 ≤ e.1 ∧ e.1 ≤ T) ∧ e.2.length ≤ 100 := by
    have := hm.es
    unfold ND.cutM
    split
    · exact ⟨by simp; omega, fun e he => this.2 e (List.mem_of_mem_drop he)⟩
    · exact this
  unfold ND.restP
  cases hfi : ND.fits x.g (x.cutM m).2 ((x.cutM m).1 + 1) with
  | none =>
    have hl : (x.cutM m).1 + (x.cutM m).2.length ≤ x.g.last := by
      rcases fits_none hfi with h1 | h1
      · rw [h1]; simp; omega
      · omega
    exact LT.mono ((LIn.commits (LT.rfl h) m hl).sent _) (by omega) (by omega) (by omega)
  | some p =>
    obtain ⟨i, l⟩ := p
    obtain ⟨a1, ⟨c, hc1, hc2⟩, a3⟩ := fits_at hfi
    dsimp only
    by_cases h1 : i ≤ x.commit
    · rw [if_pos h1]; exact LT.mono (LT.rfl h) (by omega) (by omega) (by omega)
    · rw [if_neg h1]
      have hi : x.commit ≤ i - 1 ∧ i - 1 ≤ x.g.last := by
        rcases a3 with a3 | ⟨e, a3⟩
        · omega
        · have := at_last a3; omega
      have hll : l.length ≤ 20 := by rw [hc1]; simp; omega
      have h2 := h.add (i := i - 1) (m := l) hi (fun hr2 => absurd hr2 hr) (fun e he => hb3.2 e (by rw [hc1] at he; exact List.mem_of_mem_drop he))
      have hpl := play_last (g := x.g) (i := i - 1) (m := l) (by have := h.commit; omega)
      have hle : (x.cutM m).1 + (x.cutM m).2.length ≤ (x.g.play (.add (i - 1) l)).last := by
        rw [hpl, hc1]
        have hcl : c < (x.cutM m).2.length := by
          by_cases hcl : c < (x.cutM m).2.length
          · exact hcl
          · have : l = [] := by rw [hc1]; exact List.drop_eq_nil_of_le (by omega)
            exfalso
            have key : ∀ {l : List Ent} {i j : Int} {l2 : List Ent}, ND.fits x.g l i = some (j, l2) → l2 ≠ [] := by
              intro l
              induction l with
              | nil => intro i j l2 h; cases h
              | cons e l ih =>
                intro i j l2 h
                by_cases h1 : (x.g.at i).map (·.1) = some e.1
                · rw [fits_yes h1] at h; exact ih h
                · rw [fits_no h1] at h; cases h; simp
            exact key hfi this
        simp; omega
      exact LT.mono ((LIn.commits h2 m (last := (x.cutM m).1 + (x.cutM m).2.length) hle).sent _) (by omega) (by omega) (by omega)
theorem LIn.addP {T I : Int} {A : Nat} {x : ND} {m : Msg} (h : LIn T I A x) (hr : ¬ x.role = 2) (hm : MLn T I m) : LT T (I + 20) (A + 20) x (x.addP m) := by
  unfold ND.addP
  by_cases h1 : m.index < x.g.base ∧ (m.es.length : Int) < x.g.base - m.index
  · rw [if_pos h1]; exact LT.mono ((LT.rfl h).sent _) (by omega) (by omega) (by omega)
  · by_cases h2 : ¬ m.index < x.g.base ∧ ¬ x.g.termAt m.index = some m.logTerm
    · rw [if_neg h1, if_pos h2]; exact LT.mono ((LT.rfl h).sent _) (by omega) (by omega) (by omega)
    · rw [if_neg h1, if_neg h2]
      refine h.restP hr hm ?_
      unfold ND.cutM
      by_cases h3 : m.index < x.g.base
      · rw [if_pos h3]; have := h.commit; dsimp only; omega
      · rw [if_neg h3]
        have h4 : x.g.termAt m.index = some m.logTerm := by
          by_cases h4 : x.g.termAt m.index = some m.logTerm
          · exact h4
          · exact absurd ⟨h3, h4⟩ h2
        exact termAt_last h4
theorem inst_last {g : LG} {i t : Int} {s : Bs} (hi : g.base ≤ i) : (g.inst i t s).base = i ∧ i ≤ (g.inst i t s).last ∧ (g.inst i t s).last ≤ max i g.last ∧ (g.inst i t s).all.length ≤ g.all.length ∧ (∀ e ∈ (g.inst i t s).all, e ∈ g.all) ∧ (g.inst i t s).term = g.term ∧ (g.inst i t s).vote = g.vote ∧ (g.inst i t s).state = s := by
  unfold LG.inst
  split
  · rename_i h
    have h1 := termAt_last h
    unfold LG.comp LG.last at *
    dsimp only
    exact ⟨rfl, by omega, by simp; omega, by simp, fun e he => List.mem_of_mem_drop he, rfl, rfl, rfl⟩
  · unfold LG.base0 LG.last
    dsimp only
    exact ⟨rfl, by simp, by simp; omega, by simp, fun e he => by simp at he, rfl, rfl, rfl⟩
theorem inst_baseT {g : LG} {i t T : Int} {s : Bs} (h0 : 0 ≤ T) (hb : 0 ≤ g.baseT ∧ g.baseT ≤ T) (ha : ∀ e ∈ g.all, (0 ≤ e.1 ∧ e.1 ≤ T) ∧ e.2.length ≤ 100) (ht : 0 ≤ t ∧ t ≤ T) : 0 ≤ (g.inst i t s).baseT ∧ (g.inst i t s).baseT ≤ T := by
  unfold LG.inst
  split
  · rename_i h
    unfold LG.comp
    dsimp only
    rw [h]; exact ht
  · exact ht
theorem LIn.snapP {T I : Int} {A : Nat} {x : ND} {m : Msg} (h : LIn T I A x) (hr : ¬ x.role = 2) (hm : MLn T I m) : LT T I A x (x.snapP m) := by
  have hb := h.base
  have hcm := h.commit
  have hl := h.last
  have hal := h.alln
  have hix := hm.index
  have ht := h.term
  unfold ND.snapP
  by_cases h1 : m.index > x.commit
  · rw [if_pos h1]
    obtain ⟨e1, e2, e3, e4, e5, e6, e7, e8⟩ := inst_last (g := x.g) (i := m.index) (t := m.logTerm) (s := m.state) (by omega)
    refine LT.sent (x := x) (y := { x with g := x.g.inst m.index m.logTerm m.state, commit := m.index }) ⟨⟨h.idn, h.down, by rw [e6]; exact h.term, by rw [e7]; exact h.vote, by rw [e1]; omega, inst_baseT (by omega) h.baseT h.all hm.logTerm, by show (x.g.inst m.index m.logTerm m.state).last ≤ I; omega, by rw [e8]; exact hm.state, Nat.le_trans e4 h.alln, fun e he => h.all e (e5 e he), ⟨by show (x.g.inst m.index m.logTerm m.state).base ≤ m.index; omega, e2⟩, h.patience, h.peers, h.peer, fun hr2 => absurd hr2 hr, h.votes⟩, ⟨Eq.refl _, Eq.refl _, by show x.commit ≤ m.index; omega, by rw [e1]; omega, fun i h2 h3 => by rw [e1] at h2; omega, .inr ⟨e6.symm, .inr e7.symm⟩⟩⟩ _
  · rw [if_neg h1]
    exact (LT.rfl h).sent _
theorem LIn.follows {T I : Int} {A : Nat} {x : ND} {m : Msg} (h : LIn T I A x) : LT T I A x (x.follows m) :=
  ⟨⟨h.idn, h.down, h.term, h.vote, h.base, h.baseT, h.last, h.state, h.alln, h.all, h.commit, ⟨by show (0 : Int) ≤ 0; omega, by show (0 : Int) ≤ 30; omega⟩, fun hr => absurd (show (0 : Int) = 2 from hr) (by decide), h.peer, fun hr => absurd (show (0 : Int) = 2 from hr) (by decide), h.votes⟩, TR.same (Eq.refl _) (Eq.refl _) (Eq.refl _) (Int.le_refl _)⟩
theorem LIn.fedP {T I : Int} {A : Nat} {x : ND} {m : Msg} (h : LIn T I A x) (hm : MLn T I m) : LT T (I + 20) (A + 20) x (x.fedP m) := by
  have hf := LIn.follows (m := m) h
  have h0 : ¬ (x.follows m).role = 2 := fun hr => absurd (show (0 : Int) = 2 from hr) (by decide)
  unfold ND.fedP
  split
  · exact LT.mono ((LT.rfl h).sent _) (by omega) (by omega) (by omega)
  · split
    · exact LT.mono (LT.rfl h) (by omega) (by omega) (by omega)
    · split
      · exact hf.trans (hf.inn.addP h0 hm)
      · exact LT.mono (hf.trans (hf.inn.snapP h0 hm)) (by omega) (by omega) (by omega)
theorem LIn.setPeer {T I : Int} {A : Nat} {x : ND} (h : LIn T I A x) (to : Nat) {p : Int × Int} (hp : (1 ≤ p.1 ∧ p.1 ≤ I + 1) ∧ (0 ≤ p.2 ∧ p.2 ≤ x.g.last)) : LT T I A x (x.setPeer to p) := by
  have hl := h.last
  refine ⟨⟨h.idn, h.down, h.term, h.vote, h.base, h.baseT, h.last, h.state, h.alln, h.all, h.commit, h.patience, fun hr => by have := h.peers hr; unfold ND.setPeer; simpa using this, fun q hq => ?_, fun hr q hq => ?_, h.votes⟩, TR.same (Eq.refl _) (Eq.refl _) (Eq.refl _) (Int.le_refl _)⟩
  · rcases List.mem_or_eq_of_mem_set (show q ∈ x.peers.set to p from hq) with hq | rfl
    · exact h.peer q hq
    · omega
  · rcases List.mem_or_eq_of_mem_set (show q ∈ x.peers.set to p from hq) with hq | rfl
    · exact h.pl hr q hq
    · exact hp.2.2
theorem LIn.peerb {T I : Int} {A : Nat} {x : ND} (h : LIn T I A x) (hr : x.role = 2) (i : Nat) : (0 ≤ x.nxt i ∧ x.nxt i ≤ I + 1) ∧ (0 ≤ x.mat i ∧ x.mat i ≤ x.g.last) := by
  have h0 := h.base
  have hc := h.commit
  have hl := h.last
  unfold ND.nxt ND.mat
  by_cases h1 : i < x.peers.length
  · have hm : x.peers.getD i (0, 0) ∈ x.peers := by rw [List.getD_eq_getElem?_getD, List.getElem?_eq_getElem h1]; simp
    have h2 := h.peer _ hm
    have h3 := h.pl hr _ hm
    omega
  · rw [List.getD_eq_getElem?_getD, List.getElem?_eq_none (by omega)]
    simp; omega
theorem LIn.heardP {T I : Int} {A : Nat} {x : ND} {m : Msg} (h : LIn T I A x) (hm : MLn T I m) : LT T I A x (x.heardP m) := by
  have hix := hm.index
  have h0 := h.base
  have hcm := h.commit
  have hl := h.last
  unfold ND.heardP heardN
  dsimp only
  by_cases h1 : ¬ x.role = 2 ∨ ¬ m.term = x.g.term
  · rw [if_pos h1]; exact LT.rfl h
  · have hr : x.role = 2 := by
      by_cases hr : x.role = 2
      · exact hr
      · exact absurd (.inl hr) h1
    have hp := h.peerb hr m.frm.toNat
    rw [if_neg h1]
    by_cases h2 : m.ok = false
    · rw [if_pos h2]
      exact (h.setPeer m.frm.toNat (p := (max (min (x.nxt m.frm.toNat - 1) (m.index + 1)) (x.mat m.frm.toNat + 1), x.mat m.frm.toNat)) (by dsimp only; omega)).sent _
    · rw [if_neg h2]
      have h3 := h.setPeer m.frm.toNat (p := (max (x.mat m.frm.toNat) (min m.index x.g.last) + 1, max (x.mat m.frm.toNat) (min m.index x.g.last))) (by dsimp only; omega)
      have h4 := h3.trans (LIn.count h3.inn hr)
      split
      · exact h4.sent _
      · exact h4
theorem LIn.kindP {T I : Int} {A : Nat} {x : ND} {m : Msg} (h : LIn T I A x) (hm : MLn T I m) (hf : 0 ≤ m.frm ∧ m.frm < x.n) : LT T (I + 20) (A + 20) x (x.kindP m) := by
  unfold ND.kindP
  split
  · exact LT.mono (h.askedP hf) (by omega) (by omega) (by omega)
  · split
    · exact LT.mono (h.votedP hf) (by omega) (by omega) (by omega)
    · split
      · exact h.fedP hm
      · split
        · exact LT.mono (h.heardP hm) (by omega) (by omega) (by omega)
        · exact LT.mono (LT.rfl h) (by omega) (by omega) (by omega)
theorem LIn.newTerm {T I : Int} {A : Nat} {x : ND} (h : LIn T I A x) : LIn T I A x.newTerm :=
  ⟨h.idn, h.down, h.term, h.vote, h.base, h.baseT, h.last, h.state, h.alln, h.all, h.commit, h.patience, fun hr => absurd (show (0 : Int) = 2 from hr) (by decide), h.peer, fun hr => absurd (show (0 : Int) = 2 from hr) (by decide), h.votes⟩
theorem LIn.receiveP {T I : Int} {A : Nat} {x : ND} {m : Msg} (h : LIn T I A x) (hm : MLn T I m) : LT T (I + 20) (A + 20) x (x.receiveP m) := by
  have ht := h.term
  unfold ND.receiveP
  by_cases h1 : ¬ m.to = x.id ∨ m.frm = x.id ∨ m.frm < 0 ∨ m.frm ≥ x.n
  · rw [if_pos h1]; exact LT.mono (LT.rfl h) (by omega) (by omega) (by omega)
  · rw [if_neg h1]
    have hf : 0 ≤ m.frm ∧ m.frm < x.n := by omega
    by_cases h2 : m.term > x.g.term
    · rw [if_pos h2]
      have h3 := h.set (t := m.term) (v := -1) hm.term (by omega) (.inl (by omega))
      have h4 : LT T I A x (ND.newTerm { x with g := { x.g with term := m.term, vote := -1 } }) := ⟨h3.inn.newTerm, h3.tr.trans (TR.same (Eq.refl _) (Eq.refl _) (Eq.refl _) (Int.le_refl _))⟩
      exact h4.trans (h4.inn.kindP hm hf)
    · rw [if_neg h2]; exact h.kindP hm hf
theorem comp_at {g : LG} {i j : Int} {s : Bs} (hi : g.base ≤ i ∧ i ≤ g.last) (hj : i < j) : (g.comp i s).at j = g.at j := by
  have hl : (g.comp i s).last = g.last := by unfold LG.comp LG.last at *; simp; omega
  have hb : (g.comp i s).base = i := rfl
  by_cases h1 : j ≤ g.last
  · rw [at_in (g := g) (by omega), at_in (by omega), hb]
    show (g.all.drop (i - g.base).toNat)[_]? = _
    rw [List.getElem?_drop]
    congr 1; omega
  · rw [at_out (g := g) (by omega), at_out (by omega)]
theorem LIn.comp {T I : Int} {A : Nat} {x : ND} (h : LIn T I A x) {i : Int} {s : Bs} (hi : x.g.base ≤ i ∧ i ≤ x.commit) (hs : s.length ≤ 1000000) : LT T I A x { x with g := x.g.comp i s } := by
  have hb := h.base
  have hc := h.commit
  have hl : (x.g.comp i s).last = x.g.last := by unfold LG.comp LG.last at *; simp; omega
  have ht := h.term
  refine ⟨⟨h.idn, h.down, h.term, h.vote, by show 0 ≤ i; omega, ?_, by rw [hl]; exact h.last, hs, by have := h.alln; show (x.g.all.drop _).length ≤ A; simp; omega, fun e he => h.all e (List.mem_of_mem_drop he), ⟨by show i ≤ x.commit; omega, by rw [hl]; exact h.commit.2⟩, h.patience, h.peers, h.peer, fun hr p hp => by rw [hl]; exact h.pl hr p hp, h.votes⟩, ⟨Eq.refl _, Eq.refl _, Int.le_refl _, by show x.g.base ≤ i; omega, fun j hj hjc => comp_at (by omega) hj, .inr ⟨Eq.refl _, .inr (Eq.refl _)⟩⟩⟩
  show 0 ≤ (x.g.termAt i).getD 0 ∧ (x.g.termAt i).getD 0 ≤ T
  unfold LG.termAt
  split
  · exact h.baseT
  · cases h1 : x.g.at i with
    | none => simp; omega
    | some e => exact (h.all e (LG.at_mem h1)).1
theorem LIn.start {id n : Nat} {g : LG} {T I : Int} {A : Nat} (hid : id < n ∧ n ≤ 9) (hT : 0 ≤ g.term ∧ g.term ≤ T) (hv : -1 ≤ g.vote ∧ g.vote < 9) (hb : 0 ≤ g.base) (hbT : 0 ≤ g.baseT ∧ g.baseT ≤ T) (hl : g.last ≤ I) (hs : g.state.length ≤ 1000000) (hA : g.all.length ≤ A) (ha : ∀ e ∈ g.all, (0 ≤ e.1 ∧ e.1 ≤ T) ∧ e.2.length ≤ 100) : LIn T I A (ND.start id n g) :=
  ⟨hid, rfl, hT, hv, hb, hbT, hl, hs, hA, ha, ⟨Int.le_refl _, by show g.base ≤ g.last; unfold LG.last; omega⟩, by show (0 : Int) ≤ 0 ∧ (0 : Int) ≤ 30; omega, fun hr => absurd (show (0 : Int) = 2 from hr) (by decide), fun p hp => by simp [ND.start] at hp, fun hr => absurd (show (0 : Int) = 2 from hr) (by decide), by simp [ND.start], fun i hi => by simp [ND.start] at hi⟩
theorem LIn.start0 {id n : Nat} (hid : id < n ∧ n ≤ 9) : LIn 0 0 0 (ND.start id n LG.new) :=
  LIn.start hid (by decide) (by decide) (by decide) (by decide) (by decide) (by decide) (by decide) (fun e he => by simp [LG.new] at he)
end V
end Go.Proofs.YtjdbigplednihaaGreat
set_option linter.unusedSimpArgs false
set_option linter.unusedVariables false
set_option maxRecDepth 100000
namespace Go.Proofs.YtjdbigplednihaaGreat
open Go.RowKit
namespace V
set_option maxHeartbeats 4000000
theorem map_snoc2 {α β : Type} (f : α → β) (l : List α) (a : α) : (l ++ [a]).map f = l.map f ++ [f a] := by simp
theorem rfeedAll_t {R : Hp} (v : RW) (x : ND) (k : Nat) (hk : k ≤ 90) (hx : NIn k x) (hv : RNOk R v x) (hr : x.role = 2) :
    Tri Tryz.prog 72 [.agg ⟨rnC v x⟩] R [] (fun r R' L' => FrX msgE R' ((x.others.map x.feedMsg).map x.stamp) r ∧ L' = []) := by
  have hidn := hx.idn
  refine tri_of Tryz.func72 rfl Tryz.ntmps72 rfl (fun σ F Q hret hend hpan => ?_)
  try simp only [cA, nA]
  refine cj_seq fun K1 hK1 => cj_region ?_
  refine rj_box (wn0 rfl) rfl rfl rfl (fun b1 => ?_)
  refine Ps ?_
  refine rj_nil (hK1 _ _ _ (cj_seq fun K2 hK2 => cj_region ?_))
  refine Ps ?_
  refine rj_add (A := slc 48 10 (.slice none 0 0) 0 ([] : List (List Value)).flatten) (slc_nil _ _) ?_
  refine rj_nil (hK2 _ _ _ (cj_seq fun K3 hK3 => cj_seq fun K4 hK4 => cj_region ?_))
  refine Ps ?_
  refine rj_nil (hK4 _ _ _ (cj_block ?_))
  refine cj_env (E' := (fun (x1 : Nat × Value × Hp × List (List Value)) => [(1, .pointer (some ⟨b1, 0, none⟩)), (3, x1.2.1), (4, .int .i64 (x1.1 : Int))]) (0, .slice none 0 0, R, [])) (eC rfl (eC rfl (eC rfl eN))) ?_
  refine cj_sub (M := (fun (x1 : Nat × Value × Hp × List (List Value)) => slc 48 10 x1.2.1 x1.2.2.2.length x1.2.2.2.flatten :: blk b1 (rnC v x) 37 :: F) (0, .slice none 0 0, R, [])) sb_ ?_
  refine cj_loop (fun (x1 : Nat × Value × Hp × List (List Value)) => [(1, .pointer (some ⟨b1, 0, none⟩)), (3, x1.2.1), (4, .int .i64 (x1.1 : Int))]) (fun (x1 : Nat × Value × Hp × List (List Value)) => x1.2.2.1) (fun (x1 : Nat × Value × Hp × List (List Value)) => slc 48 10 x1.2.1 x1.2.2.2.length x1.2.2.2.flatten :: blk b1 (rnC v x) 37 :: F) (fun (x1 : Nat × Value × Hp × List (List Value)) => x1.1 ≤ x.n ∧ x1.2.1.oneCell' = true ∧ R.le x1.2.2.1 ∧ Els msgE x1.2.2.1 (((othersL x.id x1.1).map x.feedMsg).map x.stamp) x1.2.2.2) (fun (x1 : Nat × Value × Hp × List (List Value)) => x.n - x1.1) (0, .slice none 0 0, R, []) (⟨by simp, rfl, Hp.le_refl _, Els.nil⟩) ?_
  rintro ⟨i, vl, R3, css⟩ ⟨hi, hvl, hR3, hk3⟩
  try dsimp only
  dsimp only at hi hvl hR3 hk3
  have hcl := hk3.1
  have hol := othersL_le x.id i
  simp only [List.length_map] at hcl
  refine cj_seq fun K5 hK5 => cj_seq fun K6 hK6 => cj_region ?_
  refine Pm ?_
  refine Pa (Ga Tryz.underlying37 Tryz.sizeOf3) ?_
  first | refine Pa (La o3) ?_ | refine Pa (Ls o3) ?_
  refine Pa (y_lss rfl rfl) ?_
  refine rj_nil (hK6 _ _ _ ?_)
  refine cj_cond rfl (fun hc8 => ?_) (fun hc8 => ?_)
  try simp only [dT, dF, nT, nF, tF, fT] at hc8
  refine cj_skip (hK5 _ _ _ (cj_seq fun K8 hK8 => cj_block (cj_seq fun K9 hK9 => ?_)))
  have hin : i < x.n := by (try simp at hc8); omega
  refine cj_region ?_
  refine Pm ?_
  refine Pa (Ga Tryz.underlying37 Tryz.sizeOf3) ?_
  first | refine Pa (La o3) ?_ | refine Pa (Ls o3) ?_
  refine Pa (y_neq rfl rfl) ?_
  refine rj_nil (hK9 _ _ _ ?_)
  refine cj_cond rfl (fun hc14 => ?_) (fun hc14 => ?_)
  have fne : ¬ i = x.id := by intro h; (try simp at hc14); omega
  refine cj_region ?_
  refine Pm ?_
  refine Pa ((Lm (vs := rnC v x) m37)) ?_
  refine Pm ?_
  refine Ra Tryz.call103 (rfeed_t v x k hk hx (hv.mono hR3) hr i hin) ?_
  rintro r R4 L' hR4 ⟨⟨ve, rfl, hve⟩, rfl⟩
  have hveo := hve.one
  try simp only [cA, nA]
  refine rj_buildSlice (sz := 10) (wn0 rfl) rfl Tryz.underlying28 Tryz.sizeOf48 Tryz.zeroValue48 rfl rfl rfl (by decide) (by decide) (fun b19 => ?_)
  refine rj_append (sz := 10) (by_ := 104) ⟨Tryz.underlying28, _, _, rfl, rfl, rfl, rfl, rfl⟩ (wn0 rfl) rfl rfl rfl fd_ (src_slc (xs := msgC (x.stamp (x.feedMsg i)) ve) Tryz.underlying28 fd_ (msgC_one hveo)) rfl om_ (by simp only [maxLen]; omega) (fun v20 ho20 hh20 => ?_)
  rw [flat1, show css.length + 1 = (css ++ [msgC (x.stamp (x.feedMsg i)) ve]).length by simp]
  refine Ps ?_
  refine rj_nil (hK8 _ _ _ (cj_region ?_))
  refine Pm ?_
  first | refine Pa (y_add64 rfl rfl om_) ?_ | refine Pa (y_add rfl rfl) ?_
  refine Ps ?_
  refine rj_nil ?_
  refine ej_on (q' := roundK _ _ _ _ _ _ _) rfl ?_
  refine ej_round ((i + 1, v20, R4, css ++ [msgC (x.stamp (x.feedMsg i)) ve])) (⟨by dsimp only; omega, by assumption, Hp.le_trans hR3 hR4, by dsimp only; rw [othersL_succ, if_neg fne, map_snoc2, map_snoc2]; exact (hk3.mono hR4).snoc ⟨ve, rfl, hve⟩⟩) (by dsimp only; omega) (eC rfl (eC rfl (eC rfl eN))) rfl sb_
  have feq : i = x.id := by (try simp at hc14); omega
  refine cj_skip (hK8 _ _ _ (cj_region ?_))
  refine Pm ?_
  first | refine Pa (y_add64 rfl rfl om_) ?_ | refine Pa (y_add rfl rfl) ?_
  refine Ps ?_
  refine rj_nil ?_
  refine ej_on (q' := roundK _ _ _ _ _ _ _) rfl ?_
  refine ej_round ((i + 1, vl, R3, css)) (⟨by dsimp only; omega, hvl, hR3, by dsimp only; rw [othersL_succ, if_pos feq]; exact hk3⟩) (by dsimp only; omega) (eC rfl (eC rfl (eC rfl eN))) rfl sb_
  try simp only [dT, dF, nT, nF, tF, fT] at hc8
  refine cj_exit (hK3 _ _ _ ?_)
  refine cj_env (eL 3 rfl eN) ?_
  refine cj_seq fun K11 hK11 => ?_
  obtain rfl : i = x.n := by (try simp at hc8); omega
  refine cj_freeze (e := 48) (sz := 10) (n := css.length) (v := vl) (xs := css.flatten) fd_ (fun R5 hR5 hfr hxl => ?_)
  rw [hk3.1] at hfr
  have hfx : FrX msgE R5 (((othersL x.id x.n).map x.feedMsg).map x.stamp) vl := FrozenS.frx hfr (hk3.mono hR5)
  have hfo := hfx.one
  refine cj_region ?_
  refine Pm ?_
  refine Ps ?_
  refine rj_nil (hK11 _ _ _ (cj_ret (hret _ _ _ ?_)))
  refine Ea Tryz.results72 (.cons (rv_tmp rfl) .nil) [] (by exact Hp.le_trans hR3 hR5) ?_
  exact ⟨hfx, rfl⟩
def ND.yes (x : ND) (i : Int) (j : Nat) : Bool := decide (j = x.id) || decide (i ≤ x.mat j)
def ND.cnt (x : ND) (i : Int) (c : Nat) : Nat := ((List.range c).filter (x.yes i)).length
theorem cnt_succ (x : ND) (i : Int) (c : Nat) : x.cnt i (c + 1) = if x.yes i c = true then x.cnt i c + 1 else x.cnt i c := by
  unfold ND.cnt
  rw [List.range_succ, List.filter_append]
  by_cases h : x.yes i c = true <;> simp [h]
theorem cnt_le (x : ND) (i : Int) (c : Nat) : x.cnt i c ≤ c := by
  unfold ND.cnt
  have := List.length_filter_le (x.yes i) (List.range c)
  simpa using this
theorem cnt_reach {x : ND} {i : Int} (hid : x.id < x.n) (hi : i ≤ x.g.last) : x.cnt i x.n = x.reach.countP (fun r => decide (i ≤ r)) := by
  have key : ∀ c, x.id < c → x.cnt i c = (x.g.last :: (othersL x.id c).map x.mat).countP (fun r => decide (i ≤ r)) ∧ True := by
    intro c
    induction c with
    | zero => intro h; omega
    | succ c ih =>
      intro h
      rw [cnt_succ, othersL_succ]
      by_cases hc : c = x.id
      · subst hc
        refine ⟨?_, trivial⟩
        rw [if_pos rfl, if_pos (by unfold ND.yes; simp)]
        rw [List.countP_cons_of_pos (by simpa using hi)]
        have : x.cnt i x.id = ((othersL x.id x.id).map x.mat).countP (fun r => decide (i ≤ r)) := by
          have ho : othersL x.id x.id = List.range x.id := List.filter_eq_self.2 (fun a ha => by simp at ha ⊢; omega)
          rw [ho, List.countP_map]
          unfold ND.cnt
          rw [← List.countP_eq_length_filter]
          refine List.countP_congr (fun a ha => ?_)
          simp at ha
          unfold ND.yes
          simp
          omega
        rw [this]
      · obtain ⟨h1, _⟩ := ih (by omega)
        refine ⟨?_, trivial⟩
        rw [if_neg hc, List.map_append, ← List.cons_append, List.countP_append, ← h1]
        have hy : x.yes i c = decide (i ≤ x.mat c) := by unfold ND.yes; simp [hc]
        rw [hy]
        by_cases h2 : i ≤ x.mat c <;> simp [h2]
  exact (key x.n hid).1
theorem sorted_cnt {l : List Int} (h : l.Pairwise (fun a b => decide (a ≤ b) = true)) (i : Int) (m : Nat) (hm : m < l.length) : (i ≤ l.getD m 0 → l.length - m ≤ l.countP (fun r => decide (i ≤ r))) ∧ (¬ i ≤ l.getD m 0 → l.countP (fun r => decide (i ≤ r)) ≤ l.length - m - 1) := by
  have hg : l.getD m 0 = l[m] := by simp [List.getD_eq_getElem?_getD, List.getElem?_eq_getElem hm]
  rw [hg]
  rw [List.pairwise_iff_getElem] at h
  have hsp := List.take_append_drop m l
  have hsp2 := List.take_append_drop (m + 1) l
  constructor
  · intro hi
    have : (l.drop m).countP (fun r => decide (i ≤ r)) = (l.drop m).length := by
      rw [List.countP_eq_length]
      intro a ha
      obtain ⟨j, hj, rfl⟩ := List.getElem_of_mem ha
      rw [List.getElem_drop]
      simp
      by_cases hj0 : j = 0
      · subst hj0; simpa using hi
      · have h2 := h m (m + j) hm (by simp at hj; omega) (by omega)
        simp at h2; omega
    rw [← hsp, List.countP_append, this]
    simp
  · intro hi
    have : (l.take (m + 1)).countP (fun r => decide (i ≤ r)) = 0 := by
      rw [List.countP_eq_zero]
      intro a ha
      obtain ⟨j, hj, rfl⟩ := List.getElem_of_mem ha
      rw [List.getElem_take]
      simp at hj ⊢
      by_cases hjm : j = m
      · subst hjm; omega
      · have h2 := h j m (by omega) hm (by omega)
        simp at h2; omega
    have h3 : l.countP (fun r => decide (i ≤ r)) = (l.drop (m + 1)).countP (fun r => decide (i ≤ r)) := by
      conv => lhs; rw [← hsp2, List.countP_append, this]
      simp
    rw [h3]
    have := List.countP_le_length (p := fun r => decide (i ≤ r)) (l := l.drop (m + 1))
    simp at this ⊢; omega
theorem maj_iff {x : ND} {i : Int} (hid : x.id < x.n) (hi : i ≤ x.g.last) : 2 * x.cnt i x.n > x.n ↔ i ≤ x.mid := by
  have h1 := List.mergeSort_perm x.reach (fun a b => decide (a ≤ b))
  have h2 := List.pairwise_mergeSort (le := fun (a b : Int) => decide (a ≤ b)) (fun a b c h1 h2 => by simp at *; omega) (fun a b => by simp; omega) x.reach
  have h3 := h1.length_eq
  rw [reach_len hid] at h3
  have h4 : x.cnt i x.n = (x.reach.mergeSort (fun a b => decide (a ≤ b))).countP (fun r => decide (i ≤ r)) := by rw [cnt_reach hid hi, h1.countP_eq]
  have h5 := sorted_cnt h2 i ((x.n - 1) / 2) (by omega)
  rw [h3, ← h4] at h5
  unfold ND.mid
  constructor
  · intro h
    by_cases h6 : i ≤ (x.reach.mergeSort (fun a b => decide (a ≤ b))).getD ((x.n - 1) / 2) 0
    · exact h6
    · have := h5.2 h6; omega
  · intro h
    have := h5.1 h; omega
theorem RNOk.count {R : Hp} {v : RW} {x : ND} (h : RNOk R v x) : RNOk R v x.count := by
  obtain ⟨c, hc⟩ := count_eq x
  rw [hc]
  exact ⟨h.va, h.vv, h.vn, h.vm, h.votes, h.next, h.mat⟩
theorem rcount_t {R : Hp} (v : RW) (x : ND) (k : Nat) (hk : k ≤ 90) (hx : NIn k x) (hv : RNOk R v x) (hr : x.role = 2) (hpl : ∀ p ∈ x.peers, p.2 ≤ x.g.last) :
    Tri Tryz.prog 86 [.agg ⟨rnC v x⟩] R [] (fun r R' L' => r = .agg ⟨rnC v x.count⟩ ∧ L' = []) := by
  have hg := hx.g (by omega)
  have hva := hv.va
  have hidn := hx.idn
  have hlb := LG.last_b hg
  have hco := hx.commit
  have hml := mid_last hidn.1 hpl hlb.1
  have hpn := hx.peers hr
  have hmo := hv.mat hr
  have hoc := rnC_one hv.count
  refine tri_of Tryz.func86 rfl Tryz.ntmps86 rfl (fun σ F Q hret hend hpan => ?_)
  try simp only [cA, nA]
  refine cj_seq fun K1 hK1 => cj_region ?_
  refine rj_box (wn0 rfl) rfl rfl rfl (fun b1 => ?_)
  refine rj_alloc (wn0 rfl) rfl Tryz.zeroValue37 rfl (fun b2 => ?_)
  refine rj_nil (hK1 _ _ _ (cj_seq fun K2 hK2 => cj_seq fun K3 hK3 => cj_region ?_))
  refine Pa (Ga Tryz.underlying37 Tryz.sizeOf34) ?_
  refine Pa ((Lb (vs := rlC v.va x.g) m34)) ?_
  refine Pa (Ca Tryz.call75 (rlLast_q v.va x.g hg hva)) ?_
  refine Ps ?_
  refine rj_nil (hK3 _ _ _ (cj_block ?_))
  refine cj_env (E' := (fun (x1 : Int) => [(1, .pointer (some ⟨b1, 0, none⟩)), (2, .pointer (some ⟨b2, 0, none⟩)), (3, .int .u64 x1)]) x.g.last) (eC rfl (eC rfl (eC rfl eN))) ?_
  refine cj_sub (M := (fun (x1 : Int) => blk b1 (rnC v x) 37 :: blk b2 [.int .i64 0, .int .i64 0, .int .u64 0, .int .i64 0, .int .u64 0, .int .u64 0, .string (str []), .slice none 0 0, .int .i64 0, .int .i64 0, .int .u64 0, .int .i64 0, .slice none 0 0, .slice none 0 0, .slice none 0 0] 37 :: F) x.g.last) sb_ ?_
  refine cj_loop (fun (x1 : Int) => [(1, .pointer (some ⟨b1, 0, none⟩)), (2, .pointer (some ⟨b2, 0, none⟩)), (3, .int .u64 x1)]) (fun (x1 : Int) => R) (fun (x1 : Int) => blk b1 (rnC v x) 37 :: blk b2 [.int .i64 0, .int .i64 0, .int .u64 0, .int .i64 0, .int .u64 0, .int .u64 0, .string (str []), .slice none 0 0, .int .i64 0, .int .i64 0, .int .u64 0, .int .i64 0, .slice none 0 0, .slice none 0 0, .slice none 0 0] 37 :: F) (fun (x1 : Int) => x1 ≤ x.g.last ∧ 0 ≤ x1 ∧ (∀ j, x1 < j → j ≤ x.g.last → ¬ j ≤ x.mid)) (fun (x1 : Int) => (x1 - x.commit).toNat) x.g.last (⟨Int.le_refl _, hlb.1, fun j h1 h2 => by omega⟩) ?_
  rintro i ⟨hi1, hi2, hno⟩
  try dsimp only
  refine cj_seq fun K4 hK4 => cj_seq fun K5 hK5 => cj_region ?_
  refine Pm ?_
  refine Pa (Ga Tryz.underlying37 Tryz.sizeOf31) ?_
  first | refine Pa (La o31) ?_ | refine Pa (Ls o31) ?_
  refine Pa (y_gtr rfl rfl) ?_
  refine rj_nil (hK5 _ _ _ ?_)
  refine cj_cond rfl (fun hc14 => ?_) (fun hc14 => ?_)
  try simp only [dT, dF, nT, nF, tF, fT] at hc14
  refine cj_skip (hK4 _ _ _ (cj_seq fun K7 hK7 => cj_block (cj_seq fun K8 hK8 => ?_)))
  have hic : i > x.commit := by (try simp at hc14); omega
  refine cj_region ?_
  refine Ps ?_
  refine rj_nil (hK8 _ _ _ (cj_seq fun K9 hK9 => cj_seq fun K10 hK10 => cj_region ?_))
  refine Ps ?_
  refine rj_nil (hK10 _ _ _ (cj_block ?_))
  refine cj_env (E' := (fun (x2 : Nat) => [(1, .pointer (some ⟨b1, 0, none⟩)), (2, .pointer (some ⟨b2, 0, none⟩)), (3, .int .u64 i), (4, .int .i64 (x.cnt i x2 : Int)), (5, .int .i64 (x2 : Int))]) 0) (eC rfl (eC rfl (eC rfl (eC rfl (eC rfl eN))))) ?_
  refine cj_sub (M := (fun (x2 : Nat) => blk b1 (rnC v x) 37 :: blk b2 [.int .i64 0, .int .i64 0, .int .u64 0, .int .i64 0, .int .u64 0, .int .u64 0, .string (str []), .slice none 0 0, .int .i64 0, .int .i64 0, .int .u64 0, .int .i64 0, .slice none 0 0, .slice none 0 0, .slice none 0 0] 37 :: F) 0) sb_ ?_
  refine cj_loop (fun (x2 : Nat) => [(1, .pointer (some ⟨b1, 0, none⟩)), (2, .pointer (some ⟨b2, 0, none⟩)), (3, .int .u64 i), (4, .int .i64 (x.cnt i x2 : Int)), (5, .int .i64 (x2 : Int))]) (fun (x2 : Nat) => R) (fun (x2 : Nat) => blk b1 (rnC v x) 37 :: blk b2 [.int .i64 0, .int .i64 0, .int .u64 0, .int .i64 0, .int .u64 0, .int .u64 0, .string (str []), .slice none 0 0, .int .i64 0, .int .i64 0, .int .u64 0, .int .i64 0, .slice none 0 0, .slice none 0 0, .slice none 0 0] 37 :: F) (fun (x2 : Nat) => x2 ≤ x.n) (fun (x2 : Nat) => x.n - x2) 0 (by simp) ?_
  rintro c hc
  try dsimp only
  refine cj_seq fun K11 hK11 => cj_seq fun K12 hK12 => cj_region ?_
  refine Pm ?_
  refine Pa (Ga Tryz.underlying37 Tryz.sizeOf3) ?_
  first | refine Pa (La o3) ?_ | refine Pa (Ls o3) ?_
  refine Pa (y_lss rfl rfl) ?_
  refine rj_nil (hK12 _ _ _ ?_)
  refine cj_cond rfl (fun hc20 => ?_) (fun hc20 => ?_)
  try simp only [dT, dF, nT, nF, tF, fT] at hc20
  refine cj_skip (hK11 _ _ _ (cj_seq fun K14 hK14 => cj_block (cj_seq fun K15 hK15 => ?_)))
  have hcn : c < x.n := by (try simp at hc20); omega
  obtain ⟨bn, on, cn, hvn, hnc⟩ := u64_at hmo (i := c) (by simp; omega)
  rw [mat_map] at hnc
  rw [List.length_map] at hvn
  have hcle := cnt_le x i c
  have hcs := cnt_succ x i c
  refine cj_region ?_
  refine Pm ?_
  refine Pa (Ga Tryz.underlying37 Tryz.sizeOf3) ?_
  first | refine Pa (La o3) ?_ | refine Pa (Ls o3) ?_
  refine Pa (y_eql rfl rfl) ?_
  refine Pm ?_
  refine rj_part 27 rfl (fun hg27 => ?_) (fun hg27 => ?_)
  have hy : x.yes i c = true := by (have h0 : c = x.id := by (try simp at hg27); omega); unfold ND.yes; simp [h0]
  rw [if_pos hy] at hcs
  refine Pk ?_
  refine Pk ?_
  refine Pk ?_
  refine Pk ?_
  refine Pk ?_
  refine Pk ?_
  refine Pk ?_
  refine Pa (y_pick_t rfl rfl) ?_
  refine rj_nil (hK15 _ _ _ ?_)
  refine cj_env (eL 1 rfl (eL 2 rfl (eL 3 rfl (eL 4 rfl (eL 5 rfl (eL 35 rfl eN)))))) ?_
  refine cj_cond_t rfl (cj_region ?_)
  refine Pm ?_
  refine Pa ((Yld.to (u := .int .i64 (x.cnt i (c + 1) : Int)) (y_add64 rfl rfl (by omega)) (by rw [hcs]; simp))) ?_
  refine Ps ?_
  refine rj_nil (hK14 _ _ _ (cj_region ?_))
  refine Pm ?_
  first | refine Pa (y_add64 rfl rfl om_) ?_ | refine Pa (y_add rfl rfl) ?_
  refine Ps ?_
  refine rj_nil ?_
  refine ej_on (q' := roundK _ _ _ _ _ _ _) rfl ?_
  refine ej_round (c + 1) (by omega) (by omega) (eC rfl (eC rfl (eC rfl (eC rfl (eC rfl eN))))) rfl sb_
  have h0 : ¬ c = x.id := by intro h; (try simp at hg27); omega
  refine Pb (Ga Tryz.underlying37 Tryz.sizeOf35) ?_
  refine Pb ((Yld.to (u := .slice (some ⟨bn, on, none⟩) x.peers.length cn) (La o35) hvn)) ?_
  refine Pb (y_move rfl) ?_
  refine Pb ((y_indexAddr Tryz.underlying35 Tryz.sizeOf31 rfl rfl (by omega))) ?_
  refine Pb ((y_load_ro o31 rfl (by rw [show ((c : Nat) : Int).toNat = c by simp]; exact hnc))) ?_
  refine Pb (y_move rfl) ?_
  refine Pb (y_geq rfl rfl) ?_
  refine Pa (y_pick_f rfl rfl) ?_
  refine rj_nil (hK15 _ _ _ ?_)
  refine cj_cond rfl (fun hc35 => ?_) (fun hc35 => ?_)
  first|(have hy : x.yes i c = true := by (have h1 : i ≤ x.mat c := by simpa using hc35); unfold ND.yes; simp [h1]); rw [if_pos hy] at hcs|skip
  refine cj_region ?_
  refine Pm ?_
  refine Pa ((Yld.to (u := .int .i64 (x.cnt i (c + 1) : Int)) (y_add64 rfl rfl (by omega)) (by rw [hcs]; simp))) ?_
  refine Ps ?_
  refine rj_nil (hK14 _ _ _ (cj_region ?_))
  refine Pm ?_
  first | refine Pa (y_add64 rfl rfl om_) ?_ | refine Pa (y_add rfl rfl) ?_
  refine Ps ?_
  refine rj_nil ?_
  refine ej_on (q' := roundK _ _ _ _ _ _ _) rfl ?_
  refine ej_round (c + 1) (by omega) (by omega) (eC rfl (eC rfl (eC rfl (eC rfl (eC rfl eN))))) rfl sb_
  first|(have hy : ¬ x.yes i c = true := by (have h1 : ¬ i ≤ x.mat c := by simpa using hc35); unfold ND.yes; simp [h0, h1]); rw [if_neg hy] at hcs; rw [← hcs]|skip
  refine cj_skip (hK14 _ _ _ (cj_region ?_))
  refine Pm ?_
  first | refine Pa (y_add64 rfl rfl om_) ?_ | refine Pa (y_add rfl rfl) ?_
  refine Ps ?_
  refine rj_nil ?_
  refine ej_on (q' := roundK _ _ _ _ _ _ _) rfl ?_
  refine ej_round (c + 1) (by omega) (by omega) (eC rfl (eC rfl (eC rfl (eC rfl (eC rfl eN))))) rfl sb_
  try simp only [dT, dF, nT, nF, tF, fT] at hc20
  refine cj_exit (hK9 _ _ _ (cj_seq fun K17 hK17 => ?_))
  obtain rfl : c = x.n := by (try simp at hc20); omega
  have hcle := cnt_le x i x.n
  have hmj := maj_iff (i := i) hidn.1 hi1
  refine cj_region ?_
  refine Pm ?_
  refine Pa ((y_mul64 rfl rfl (by omega))) ?_
  refine Pa (Ga Tryz.underlying37 Tryz.sizeOf3) ?_
  first | refine Pa (La o3) ?_ | refine Pa (Ls o3) ?_
  refine Pa (y_gtr rfl rfl) ?_
  refine rj_nil (hK17 _ _ _ ?_)
  refine cj_env (eL 1 rfl (eL 2 rfl (eL 3 rfl (eL 42 rfl eN)))) ?_
  refine cj_cond rfl (fun hc42 => ?_) (fun hc42 => ?_)
  have hyes : i ≤ x.mid := hmj.1 (by (try simp at hc42); omega)
  have hmi : x.mid = i := by (by_cases h : x.mid = i; exact h; exact absurd (Int.le_refl _) (hno x.mid (by omega) hml))
  have hib : u64B i := by unfold u64B; omega
  refine cj_seq fun K19 hK19 => cj_region ?_
  refine Pa (Ga Tryz.underlying37 Tryz.sizeOf34) ?_
  refine Pa ((Lb (vs := rlC v.va x.g) m34)) ?_
  refine Pm ?_
  refine Pa (Ca Tryz.call88 ((rlTermAt_q v.va x.g hg hva i hib).eq2 (numV_eq _))) ?_
  refine Pm ?_
  refine Pa (y_extract rfl rfl) ?_
  refine Pa (y_extract rfl rfl) ?_
  refine Ps ?_
  refine Ps ?_
  refine rj_nil (hK19 _ _ _ (cj_seq fun K20 hK20 => cj_seq fun K21 hK21 => cj_region ?_))
  refine Pm ?_
  refine Pa (Ga Tryz.underlying37 Tryz.sizeOf34) ?_
  refine Pa (Ga Tryz.underlying34 Tryz.sizeOf31) ?_
  first | refine Pa (La o31) ?_ | refine Pa (Ls o31) ?_
  refine Pa (y_eql rfl rfl) ?_
  refine rj_nil (hK21 _ _ _ ?_)
  refine cj_cond rfl (fun hc54 => ?_) (fun hc54 => ?_)
  have hti : x.tAt i = x.g.term := by (unfold ND.tAt; simpa using hc54)
  have hce : x.count = { x with commit := i } := by unfold ND.count; rw [hmi, if_pos ⟨hic, hti⟩]
  refine cj_region ?_
  refine Pm ?_
  refine Pa (Ga Tryz.underlying37 Tryz.sizeOf31) ?_
  refine Sa o31 ?_
  refine rj_nil (hK20 _ _ _ (cj_seq fun K23 hK23 => ?_))
  refine cj_turnA (A := blk b1 _ 37) (B := blk b1 (rnC v x.count) 37) fd_ (fun h hh => by rw [hce]; exact hh) ?_
  refine cj_region ?_
  refine Pa ((Lm (vs := rnC v x.count) m37)) ?_
  refine Sm (vs := rnC v x.count) m37 hoc ?_
  refine rj_nil (hK23 _ _ _ (cj_ret (hret _ _ _ ?_)))
  refine Ea Tryz.results86 (.cons (rv_cells m37 rfl fd_ rfl rfl) .nil) [] le_ ?_
  exact ⟨rfl, rfl⟩
  have hti : ¬ x.tAt i = x.g.term := by (unfold ND.tAt; simpa using hc54)
  have hce : x.count = x := by unfold ND.count; rw [hmi, if_neg (by simp [hti])]
  refine cj_skip (hK20 _ _ _ (cj_seq fun K24 hK24 => ?_))
  refine cj_turnA (A := blk b1 _ 37) (B := blk b1 (rnC v x.count) 37) fd_ (fun h hh => by rw [hce]; exact hh) ?_
  refine cj_region ?_
  refine Pa ((Lm (vs := rnC v x.count) m37)) ?_
  refine Sm (vs := rnC v x.count) m37 hoc ?_
  refine rj_nil (hK24 _ _ _ ?_)
  refine cj_env (eL 2 rfl eN) ?_
  refine cj_ret (hret _ _ _ ?_)
  refine Ea Tryz.results86 (.cons (rv_cells m37 rfl fd_ rfl rfl) .nil) [] le_ ?_
  exact ⟨rfl, rfl⟩
  have hnm : ¬ i ≤ x.mid := fun h => by (have := hmj.2 h; (try simp at hc42); omega)
  refine cj_skip (hK7 _ _ _ (cj_region ?_))
  refine Pm ?_
  first | refine Pa (y_subu rfl rfl om_) ?_ | refine Pa (y_sub rfl rfl) ?_
  refine Ps ?_
  refine rj_nil ?_
  refine ej_on (q' := roundK _ _ _ _ _ _ _) rfl ?_
  refine ej_round (i - 1) (⟨by omega, by omega, fun j h1 h2 => by (by_cases h3 : j = i; (subst h3; exact hnm); exact hno j (by omega) h2)⟩) (by omega) (eC rfl (eC rfl (eC rfl eN))) rfl sb_
  try simp only [dT, dF, nT, nF, tF, fT] at hc14
  refine cj_exit (hK2 _ _ _ (cj_seq fun K25 hK25 => ?_))
  have hce : x.count = x := by (unfold ND.count; rw [if_neg]; intro h; (try simp at hc14); exact hno x.mid (by omega) hml (Int.le_refl _))
  refine cj_turnA (A := blk b1 _ 37) (B := blk b1 (rnC v x.count) 37) fd_ (fun h hh => by rw [hce]; exact hh) ?_
  refine cj_region ?_
  refine Pa ((Lm (vs := rnC v x.count) m37)) ?_
  refine Sm (vs := rnC v x.count) m37 hoc ?_
  refine rj_nil (hK25 _ _ _ (cj_ret (hret _ _ _ ?_)))
  refine Ea Tryz.results86 (.cons (rv_cells m37 rfl fd_ rfl rfl) .nil) [] le_ ?_
  exact ⟨rfl, rfl⟩
end V
end Go.Proofs.YtjdbigplednihaaGreat
set_option linter.unusedSimpArgs false
set_option linter.unusedVariables false
set_option maxRecDepth 100000
namespace Go.Proofs.YtjdbigplednihaaGreat
open Go.RowKit
namespace V
set_option maxHeartbeats 4000000
def ND.q (x : ND) : ND := { x with out := [] }
def BB (T I : Int) (A : Nat) : Prop := T ≤ 2305843009213693952 ∧ I ≤ 100000000000000 ∧ A ≤ 80000
theorem q_eq {x : ND} (h : x.out = []) : x.q = x := by
  unfold ND.q; cases x; simp at h; subst h; rfl
theorem LIn.q {T I : Int} {A : Nat} {x : ND} (h : LIn T I A x) : LIn T I A x.q := h.sends []
theorem LIn.nin0 {T I : Int} {A : Nat} {x : ND} (h : LIn T I A x) (hB : BB T I A) (ho : x.out = []) : NIn 0 x := h.nin 0 hB.1 hB.2.1 hB.2.2 (by rw [ho]; exact Nat.zero_le _)
theorem NOk.q {R : Hp} {v : NV} {x : ND} (h : NOk R v x) : NOk R { v with css := [] } x.q := ⟨h.va, Els.nil, h.vm, h.vp, h.vo, h.map⟩
theorem downS_h {n : Nat} {x : ND} {D : DK} (hd : x.down = false) (h : LD n x.g D) : ¬ downS (x, D) = true := by
  obtain ⟨h1, _, _, _, h5, _⟩ := h
  unfold downS; simp [hd, h1, h5]
theorem run_h {n m : Nat} {x y : ND} {D : DK} {f : NS → Bool × NS} (hd : x.down = false) (hl : LD m x.g D) (ho : x.out = []) (h : Hs n (f (x, D)) y) : (runN (x, D) f).1 = y.out ∧ (runN (x, D) f).2.1 = y ∧ LD n y.g (runN (x, D) f).2.2 := by
  obtain ⟨h1, h2, h3⟩ := h
  rw [runN_eq]
  unfold runR
  rw [if_neg (downS_h hd hl), show ({ x with out := [] } : ND) = x from q_eq ho, if_pos h1]
  exact ⟨by rw [h2], h2, h3⟩
def POK (b : NB) (n : Nat) (y : ND) (r : Value) (R' : Hp) (L' : List Asn) : Prop := FrX msgE R' y.out r ∧ ∃ v' D', NOk R' v' y.q ∧ LD n y.g D' ∧ L' = ndI b v' y.q D'
theorem tickOK_t {R : Hp} (b : NB) (v : NV) (x : ND) (D : DK) (n : Nat) {T I : Int} {A : Nat} (hx : LIn T I A x) (ho : x.out = []) (hB : BB T I A) (hv : NOk R v x) (hl : LD n x.g D) (hn : n ≤ 600000000) :
    Tri Tryz.prog 9 [.pointer (some ⟨b.x, 0, none⟩)] R (ndI b v x D) (POK b (n + 6000) x.tickP) := by
  have h0 := hx.nin0 hB ho
  refine Tri.mono (tick_t b v x D 0 n (by omega) h0 hv hl.okD (by omega)) (fun r R' L' _ h => ?_) (fun _ _ _ _ h => h)
  obtain ⟨v', hr, hv', rfl⟩ := h
  obtain ⟨e1, e2, e3⟩ := run_h (f := tickN) hx.down hl ho (tick_h (by omega) hl h0)
  rw [e1] at hr
  rw [e2] at hv' ⊢
  exact ⟨hr, _, _, hv'.q, e3, rfl⟩
theorem MLn.im {T I : Int} {m : Msg} (h : MLn T I m) (hT : T ≤ 2305843009213693952) (hI : I ≤ 100000000000000) (hc : m.commit < 18446744073709551616) : MIm 0 m :=
  ⟨by have := h.term; omega, by have := h.index; omega, by have := h.logTerm; omega, ⟨h.commit, hc⟩, ⟨h.es.1, fun e he => by have := h.es.2 e he; omega⟩, h.state⟩
theorem receiveOK_t {R : Hp} (b : NB) (v : NV) (x : ND) (D : DK) (m : Msg) (ve : Value) (n : Nat) {T I : Int} {A : Nat} (hx : LIn T I A x) (ho : x.out = []) (hB : BB T I A) (hm : MLn T I m) (hmc : m.commit < 18446744073709551616) (hve : FrX entE R m.es ve) (hv : NOk R v x) (hl : LD n x.g D) (hn : 17000000 ≤ n ∧ n ≤ 600000000) :
    Tri Tryz.prog 11 [.pointer (some ⟨b.x, 0, none⟩), .agg ⟨msgC m ve⟩] R (ndI b v x D) (POK b (n + 6000) (x.receiveP m)) := by
  have h0 := hx.nin0 hB ho
  have hm0 := hm.im hB.1 hB.2.1 hmc
  refine Tri.mono (receive_t b v x D m ve 0 n (by omega) h0 hv hm0 hve hl.okD (by omega)) (fun r R' L' _ h => ?_) (fun _ _ _ _ h => h)
  obtain ⟨v', hr, hv', rfl⟩ := h
  obtain ⟨e1, e2, e3⟩ := run_h (f := fun s => receiveN s m) hx.down hl ho (receive_h hn.1 (by omega) hl h0 hm0 hx.commit.1)
  rw [e1] at hr
  rw [e2] at hv' ⊢
  exact ⟨hr, _, _, hv'.q, e3, rfl⟩
def ND.proposeP (x : ND) (cmd : Bs) : (Int × Int × List Msg) × ND := if ¬ x.role = 2 then ((0, 0, []), x) else (((x.entryP cmd).g.last, (x.entryP cmd).g.term, (x.entryP cmd).out), x.entryP cmd)
theorem LIn.proposeP {T I : Int} {A : Nat} {x : ND} {cmd : Bs} (h : LIn T I A x) (hc : cmd.length ≤ 100) : LT T (I + 1) (A + 1) x (x.proposeP cmd).2 := by
  unfold ND.proposeP
  by_cases h1 : x.role = 2
  · rw [if_neg (by simp [h1])]; exact h.entryP h1 hc
  · rw [if_pos h1]; exact LT.mono (LT.rfl h) (by omega) (by omega) (by omega)
theorem proposeOK_t {R : Hp} (b : NB) (v : NV) (x : ND) (D : DK) (cmd : Bs) (n : Nat) {T I : Int} {A : Nat} (hx : LIn T I A x) (ho : x.out = []) (hB : BB T I A) (hc : cmd.length ≤ 100) (hv : NOk R v x) (hl : LD n x.g D) (hn : n ≤ 600000000) :
    Tri Tryz.prog 21 [.pointer (some ⟨b.x, 0, none⟩), .string (str cmd)] R (ndI b v x D)
      (fun r R' L' => ∃ vl, r = tupOf [.int .u64 (x.proposeP cmd).1.1, .int .u64 (x.proposeP cmd).1.2.1, vl] ∧ FrX msgE R' (x.proposeP cmd).1.2.2 vl ∧ ∃ v' D', NOk R' v' (x.proposeP cmd).2.q ∧ LD (n + 6000) (x.proposeP cmd).2.g D' ∧ L' = ndI b v' (x.proposeP cmd).2.q D') := by
  have h0 := hx.nin0 hB ho
  refine Tri.mono (propose_t b v x D cmd 0 n (by omega) h0 hv hc hl.okD (by omega)) (fun r R' L' _ h => ?_) (fun _ _ _ _ h => h)
  obtain ⟨vl, v', rfl, hr, hv', rfl⟩ := h
  by_cases h1 : x.role = 2
  · obtain ⟨e1, e2, e3⟩ := run_h (f := fun s => entryN s cmd) hx.down hl ho (entry_h (by omega) hl h0 hc)
    have h2 := h0
    have hy := hx.entryP h1 hc
    have e4 : ¬ downS (runN (x, D) (fun s => entryN s cmd)).2 = true := by
      have : (runN (x, D) (fun s => entryN s cmd)).2 = (x.entryP cmd, (runN (x, D) (fun s => entryN s cmd)).2.2) := by rw [← e2]
      rw [this]
      exact downS_h hy.inn.down e3
    have e5 : proposeN (x, D) cmd = ((x.proposeP cmd).1, (x.entryP cmd, (runN (x, D) (fun s => entryN s cmd)).2.2)) := by
      unfold proposeN ND.proposeP
      rw [if_neg (by simp [h1]), if_neg e4, if_neg (by simp [h1]), e1]
      simp only [e2]
      rw [← e2]
    have e6 : (x.proposeP cmd).2 = x.entryP cmd := by unfold ND.proposeP; rw [if_neg (by simp [h1])]
    rw [e5] at hr hv' ⊢
    rw [e6]
    exact ⟨vl, rfl, hr, _, _, hv'.q, LD.mono2 e3 (by omega), rfl⟩
  · have e5 : proposeN (x, D) cmd = ((0, 0, []), (x, D)) := by unfold proposeN; rw [if_pos h1]
    have e6 : x.proposeP cmd = ((0, 0, []), x) := by unfold ND.proposeP; rw [if_pos h1]
    rw [e5] at hr hv' ⊢
    rw [e6]
    exact ⟨vl, rfl, hr, _, _, hv'.q, LD.mono2 hl (by omega), rfl⟩
def ND.compactP (x : ND) (i : Int) (s : Bs) : Int × ND := if i > x.commit then (1, x) else if i < x.g.base ∨ i > x.g.last then (1, x) else (0, { x with g := x.g.comp i s })
theorem LIn.compactP {T I : Int} {A : Nat} {x : ND} {i : Int} {s : Bs} (h : LIn T I A x) (hs : s.length ≤ 1000000) : LT T I A x (x.compactP i s).2 := by
  unfold ND.compactP
  split
  · exact LT.rfl h
  · split
    · exact LT.rfl h
    · exact h.comp (by omega) hs
theorem compactOK_t {R : Hp} (b : NB) (v : NV) (x : ND) (D : DK) (i : Int) (s : Bs) (n : Nat) {T I : Int} {A : Nat} (hx : LIn T I A x) (ho : x.out = []) (hB : BB T I A) (hi : u64B i) (hs : s.length ≤ 1000000) (hv : NOk R v x) (hl : LD n x.g D) (hn : 17000000 ≤ n ∧ n ≤ 600000000) :
    Tri Tryz.prog 49 [.pointer (some ⟨b.x, 0, none⟩), .int .u64 i, .string (str s)] R (ndI b v x D)
      (fun r R' L' => r = .int .i64 (x.compactP i s).1 ∧ ∃ v' D', NOk R' v' (x.compactP i s).2.q ∧ LD n (x.compactP i s).2.g D' ∧ L' = ndI b v' (x.compactP i s).2.q D') := by
  have h0 := hx.nin0 hB ho
  refine Tri.mono (ndCompact_t b v x D i s 0 n (by omega) h0 hv hi hs hl.okD) (fun r R' L' _ h => ?_) (fun _ _ _ _ h => h)
  obtain ⟨rfl, v', hv', rfl⟩ := h
  have hd := downS_h hx.down hl
  by_cases h1 : i > x.commit
  · have e1 : compactN (x, D) i s = (1, (x, D)) := by unfold compactN; rw [if_neg hd, if_pos h1]
    have e2 : x.compactP i s = (1, x) := by unfold ND.compactP; rw [if_pos h1]
    rw [e1] at hv' ⊢
    rw [e2]
    exact ⟨rfl, _, _, hv'.q, hl, rfl⟩
  · have hgd : ¬ (x.g.down || D.down) = true := by
      obtain ⟨h1, _, _, _, h5, _⟩ := hl
      simp [h1, h5]
    by_cases h2 : i < x.g.base ∨ i > x.g.last
    · have e1 : compactN (x, D) i s = (1, ({ x with g := x.g }, D)) := by
        unfold compactN LG.compD; rw [if_neg hd, if_neg h1]
        rw [if_neg hgd, if_pos h2]
      have e2 : x.compactP i s = (1, x) := by unfold ND.compactP; rw [if_neg h1, if_pos h2]
      rw [e1] at hv' ⊢
      rw [e2]
      exact ⟨rfl, _, _, hv'.q, hl, rfl⟩
    · have hy := (LIn.comp (i := i) (s := s) hx (by omega) hs).inn
      have hyn := hy.nin0 hB ho
      have hL := LD.swap hl (to := x.g.comp i s) (hyn.g (by omega)) hl.2.2.2.2.1 (inst_len (x := { x with g := x.g.comp i s }) (k := 0) (by omega) hyn) hn.1
      have hsw := swap_h hl.h (Rec.all (x.g.comp i s)).bytes
      have e1 : compactN (x, D) i s = (0, ({ x with g := x.g.comp i s }, (D.swap (Rec.all (x.g.comp i s)).bytes).2)) := by
        unfold compactN LG.compD LG.swapD; rw [if_neg hd, if_neg h1]
        rw [if_neg hgd, if_neg h2, if_pos hsw.1]
      have e2 : x.compactP i s = (0, { x with g := x.g.comp i s }) := by unfold ND.compactP; rw [if_neg h1, if_neg h2]
      rw [e1] at hv' ⊢
      rw [e2]
      exact ⟨rfl, _, _, hv'.q, hL, rfl⟩
theorem startOK_t {R : Hp} (l d id n m : Nat) (u va : Value) (g : LG) (D : DK) (hn : id < n ∧ n ≤ 9) (hva : FrX entE R g.all va) (hl : LD m g D) :
    Tri Tryz.prog 25 [.int .i64 (id : Int), .int .i64 (n : Int), .pointer (some ⟨l, 0, none⟩)] R [lgB l (some ⟨d, 0, none⟩) va g, dkB d u D, dkS u D]
      (fun r R' L' => ∃ bx, r = tupOf [.pointer (some ⟨bx, 0, none⟩), .int .i64 0] ∧ NOk R' (NV.new u va) (ND.start id n g) ∧ L' = ndI ⟨bx, l, d⟩ (NV.new u va) (ND.start id n g) D) := by
  refine Tri.mono (start_t l d id n u va g D hn hva) (fun r R' L' _ h => ?_) (fun _ _ _ _ h => h)
  obtain ⟨h1, h2, h3, h4, h5, _⟩ := hl
  rcases h with ⟨h, _⟩ | ⟨_, h⟩
  · simp [h1, h5] at h
  · exact h
end V
end Go.Proofs.YtjdbigplednihaaGreat
