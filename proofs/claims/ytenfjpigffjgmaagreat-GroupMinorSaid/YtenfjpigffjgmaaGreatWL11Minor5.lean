/- The law GroupMinor of layer 11, for every input: without a majority nothing more is applied. -/
import Derived.Test.YtenfjpigffjgmaaGreatWL11Minor4
set_option linter.unusedSimpArgs false
set_option linter.unusedVariables false
namespace Go.Proofs.YtenfjpigffjgmaaGreat
open Go.RowKit
namespace V
set_option maxHeartbeats 4000000
theorem QlP {x : ND} (hid : x.id < x.n) {k : Int} (h1 : k ≤ x.g.last) (h2 : ∀ j, j < x.n → j ≠ x.id → k ≤ x.mat j) : k ≤ x.mid := by
 have hm := jg hid
 unfold ND.reach at hm
 rcases List.mem_cons.1 hm with hm | hm
 ·omega
 ·obtain ⟨j, hj, e⟩ := List.mem_map.1 hm
  obtain ⟨a, b⟩ := others_mem.1 hj
  rw [← e]
  exact h2 j a b
theorem PS.mem {n L : Nat} {T k t : Int} {w : List Bs} {p b : Int} {y : Prop} {G : GS} (h : PS n L T k t w p b y G) {i : Nat} (hi : i < n) : ∃ m, G.ms[i]? = some m := ⟨_, List.getElem?_eq_getElem (by rw [h.len]; exact hi)⟩
theorem PS.prop {n L : Nat} {T k t : Int} {w : List Bs} {p b : Int} {y : Prop} {G : GS} (h : PS n L T k t w p b y G) (c : Bs) : (G.propS L c).1.1 = k + 1 ∧ CQ n L T k t w c p b 0 (G.propS L c).2 := by
 have hLn := h.lt
 obtain ⟨m, hm⟩ := h.mem hLn
 obtain ⟨c1, c2, _⟩ := h.ms L m hm
 have c2 := c2 rfl
 obtain ⟨a1, a2, a3⟩ := c1.at
 have hl := c1.last
 have hb := c1.base
 obtain ⟨e1, e2⟩ := QeY (g := m.x.g) (T, c) hb
 rw [hl] at e1 e2
 have hz : ({ m.x with g := m.x.g.play (.add m.x.g.last [(m.x.g.term, c)]) } : ND) = { m.x with g := m.x.g.play (.add k [(T, c)]) } := by rw [hl, c1.term]
 have hmid : ND.mid { m.x with g := m.x.g.play (.add k [(T, c)]) } ≤ k + 1 := by
  refine Qek (x := { m.x with g := m.x.g.play (.add k [(T, c)]) }) (by show m.x.id < m.x.n; rw [c1.id, c1.n]; exact hLn) (by show (m.x.g.play _).last ≤ _; rw [e2]; exact Int.le_refl _) (fun j hj hjn => ?_)
  have hj : j < n := by rw [← c1.n]; exact hj
  have hjn : j ≠ L := by rw [← c1.id]; exact hjn
  rw [(Zk (x := { m.x with g := m.x.g.play (.add k [(T, c)]) }) (c2.peers j hj hjn)).1]
  dsimp only; omega
 have hll : m.x.g.last = m.x.g.base + m.x.g.all.length := rfl
 have hat : (m.x.g.play (.add k [(T, c)])).at (k + 1) = some (T, c) := by
  rw [yU (by rw [e2]; show m.x.g.base < k + 1 ∧ _; omega), e1]
  show (m.x.g.all ++ [(T, c)])[(k + 1 - m.x.g.base - 1).toNat]? = _
  rw [List.getElem?_append_right (by omega), show (k + 1 - m.x.g.base - 1).toNat - m.x.g.all.length = 0 by omega]
  rfl
 obtain ⟨cm, hcnt, hcm1, hcm2, hcm3⟩ := QeN (x := { m.x with g := m.x.g.play (.add k [(T, c)]) }) (fun hgt => by
  have hgt : ND.mid { m.x with g := m.x.g.play (.add k [(T, c)]) } > m.x.commit := hgt
  have : ND.mid { m.x with g := m.x.g.play (.add k [(T, c)]) } = k + 1 := by have := c2.com; omega
  rw [this]
  unfold ND.tAt LG.termAt
  dsimp only
  rw [if_neg (by show ¬ k + 1 = m.x.g.base; omega), hat]
  exact c1.term.symm)
 have hcm4 : m.x.commit ≤ cm ∧ cm ≤ k + 1 := by
  refine ⟨hcm1, ?_⟩
  rcases hcm2 with h7 | h7
  ·have : cm = m.x.commit := h7
   omega
  ·omega
 obtain ⟨Y, hY⟩ : ∃ Y : ND, Y = { m.x with g := m.x.g.play (.add k [(T, c)]), commit := cm } := ⟨_, rfl⟩
 have hent : m.x.entryP c = Y.feedAll := by
  unfold ND.entryP
  rw [hz, hcnt, hY]
 have hYo : Y.out = [] := by rw [hY]; exact c1.out
 have hq : (m.x.entryP c).q = Y := by
  rw [hent, XW]
  exact qR hYo
 obtain ⟨g1, g2⟩ := c1.grow c (y := Y) (by rw [hY]) (by rw [hY]; exact hcm4) G.out
 have hp : m.propS c = ((k + 1, T), ({ m with x := Y }, (Y.others.map Y.feedMsg).map Y.stamp)) := by
  unfold MS.propS
  rw [if_pos c2.role, hq, hent, yt hYo, qI, hY]
  refine Prod.ext (Prod.ext e2 c1.term) rfl
 have eg : G.propS L c = ((k + 1, T), G.doneS L { m with x := Y } ((Y.others.map Y.feedMsg).map Y.stamp)) := by
  unfold GS.propS
  rw [hm]
  dsimp only
  rw [hp]
 rw [eg]
 refine ⟨rfl, ?_⟩
 have hfy : ∀ i, i < n → i ≠ L → isF L T k t c i (Y.stamp (Y.feedMsg i)) := fun i hi hiq => by
  refine QeE (n := n) (by rw [hY]; exact c1.id) (by rw [hY]; exact c1.term) (by rw [hY]; exact a1) (by rw [hY]; exact e2) ?_ (by rw [hY]; exact hat) (by rw [hY]; have := c2.com; exact ⟨by show k ≤ cm; omega, hcm4.2⟩) (by rw [hY]; exact c2.peers i hi hiq)
  rw [hY]
  unfold ND.tAt LG.termAt
  dsimp only
  rw [show (m.x.g.play (.add k [(T, c)])).base = m.x.g.base from rfl, show (m.x.g.play (.add k [(T, c)])).baseT = m.x.g.baseT from rfl, QaI (by omega) (Int.le_refl _)]
  have htl := c1.tl
  unfold LG.termAt at htl
  rw [htl]; rfl
 refine ⟨by show (G.ms.set L _).length = n; rw [List.length_set]; exact h.len, hLn, ?_, fun x hx => ?_, fun i hi hiL => ?_, ?_⟩
 ·refine Zy h.ms (fun j mj hj hP => ⟨fun e => absurd e hj, fun hjL => ⟨hP.1, by rw [if_pos (Nat.zero_le _)]; exact (hP.2.2 hjL).1⟩⟩) ⟨fun _ => ⟨g1, ?_, ?_, ⟨?_, ?_, ?_⟩, ?_⟩, fun e => absurd rfl e⟩
  ·rw [if_pos (Nat.zero_le _)]
   exact ⟨by rw [g2, hY]; exact c2.role, by rw [g2, hY]; exact c2.leader, by rw [g2, hY]; exact c2.pat, by rw [g2, hY]; exact hcm3, by rw [g2, hY]; exact c2.l⟩
  ·rw [g2, hY]; show k ≤ cm; have := c2.com; omega
  ·rw [g2, hY]; exact a1
  ·rw [g2, hY]
   unfold ND.tAt LG.termAt
   dsimp only
   rw [show (m.x.g.play (.add k [(T, c)])).base = m.x.g.base from rfl, show (m.x.g.play (.add k [(T, c)])).baseT = m.x.g.baseT from rfl, QaI (by omega) (Int.le_refl _)]
   have htl := c1.tl
   unfold LG.termAt at htl
   rw [htl]; rfl
  ·rw [g2, hY]; exact hat
  ·rw [g2, hY]; exact c2.peers
 ·have hx : x ∈ G.st ++ Xk G.last ((Y.others.map Y.feedMsg).map Y.stamp) := hx
  rw [h.st, List.nil_append] at hx
  have := ZR hx
  obtain ⟨m1, hm1, e⟩ := List.mem_map.1 this
  obtain ⟨j, hj, e'⟩ := List.mem_map.1 hm1
  obtain ⟨hj1, hj2⟩ := others_mem.1 hj
  rw [hY] at hj1 hj2
  have hj1 : j < n := by rw [← c1.n]; exact hj1
  have hj2 : j ≠ L := by rw [← c1.id]; exact hj2
  rw [← e, ← e']
  exact ⟨j, hj1, hj2, hfy j hj1 hj2⟩
 ·have hmem : Y.stamp (Y.feedMsg i) ∈ (Y.others.map Y.feedMsg).map Y.stamp := List.mem_map.2 ⟨_, List.mem_map.2 ⟨i, others_mem.2 ⟨by rw [hY]; show i < m.x.n; rw [c1.n]; exact hi, by rw [hY]; show i ≠ m.x.id; rw [c1.id]; exact hiL⟩, rfl⟩, rfl⟩
  obtain ⟨x, hx, e⟩ := zB (k := G.last) hmem
  refine ⟨x, ?_, by rw [e]; exact hfy i hi hiL⟩
  show x ∈ G.st ++ Xk G.last ((Y.others.map Y.feedMsg).map Y.stamp)
  exact List.mem_append_right _ hx
 ·rw [if_pos (Nat.zero_le _)]
  show (G.st ++ Xk G.last ((Y.others.map Y.feedMsg).map Y.stamp)).length ≤ n
  rw [h.st, List.nil_append, qA, List.length_map, List.length_map]
  have := qU Y
  have hYn : Y.n = n := by rw [hY]; exact c1.n
  rw [hYn] at this
  exact this
theorem CQ.round {n L : Nat} {T k t : Int} {w : List Bs} {c : Bs} {p b : Int} {G : GS} (h : CQ n L T k t w c p b 0 G) (hn : n ≤ 9) (hp : 0 ≤ p ∧ p ≤ 2) (hb : 0 ≤ b ∧ b ≤ 8) : PS n L T (k + 1) T (ZB w c) (if p + 1 ≥ 3 then 0 else p + 1) (b + 1) False (G.roundS n) := by
 have h1 := h.ticks hp hb n (Nat.le_refl n)
 have hLn := h1.lt
 obtain ⟨s1, s2, s3⟩ := h1.st
 rw [if_neg (by omega)] at s3
 have h2 : CB n L T k t w c (if p + 1 ≥ 3 then 0 else p + 1) (b + 1) (G.ticksS n) := by
  refine ⟨h1.len, hLn, fun i m hi => ?_, fun x hx => ?_⟩
  ·obtain ⟨c1, c2⟩ := h1.ms i m hi
   have hin : i < n := by have := (List.getElem?_eq_some_iff.1 hi).1; rw [h1.len] at this; exact this
   refine ⟨fun e => ?_, fun e => ?_⟩
   ·obtain ⟨a, b1, _, _, d⟩ := c1 e
    rw [if_neg (by omega)] at b1
    exact ⟨a, b1, fun j hj hjL => .inl (d j hj hjL)⟩
   ·obtain ⟨a, b1⟩ := c2 e
    rw [if_neg (by omega)] at b1
    exact ⟨b1, .inl ⟨a, s2 i hin e⟩⟩
  ·obtain ⟨i, a1, a2, a3⟩ := s1 x hx
   exact ⟨i, a1, a2, .inl a3⟩
 have hmu : muW w2 (G.ticksS n).st ≤ 200 := by
  have : ∀ l : List XD, muW w2 l ≤ 2 * l.length := fun l => by
   induction l with
   | nil => exact Nat.le_refl _
   | cons x l ih =>
    have h5 : w2 x.2 ≤ 2 := by unfold w2; split <;> omega
    unfold muW at ih ⊢
    simp only [List.map_cons, List.sum_cons, List.length_cons]
    omega
  have := this (G.ticksS n).st
  omega
 obtain ⟨h3, h4⟩ := QeL (Inv := CB n L T k t w c (if p + 1 ≥ 3 then 0 else p + 1) (b + 1)) Qg7 (fun G x l hG hs => hG.del (by omega) hs) h2 hmu
 have h4' : (G.roundS n).st = [] := h4
 have h3 : CB n L T k t w c (if p + 1 ≥ 3 then 0 else p + 1) (b + 1) (G.roundS n) := h3
 obtain ⟨mL, hmL⟩ : ∃ m, (G.roundS n).ms[L]? = some m := ⟨_, List.getElem?_eq_getElem (by rw [h3.len]; exact hLn)⟩
 obtain ⟨b1, b2, b3⟩ := (h3.ms L mL hmL).1 rfl
 have hpe : ∀ j, j < n → j ≠ L → mL.x.peers[j]? = some (k + 2, k + 1) := fun j hj hjL => by
  obtain ⟨m, hm⟩ : ∃ m, (G.roundS n).ms[j]? = some m := ⟨_, List.getElem?_eq_getElem (by rw [h3.len]; exact hj)⟩
  rcases ((h3.ms j m hm).2 hjL).2 with ⟨_, y, hy, _⟩ | ⟨_, _, _, h10⟩
  ·rw [h4'] at hy; cases hy
  ·rcases h10 with ⟨mL', h11, h12⟩ | ⟨y, hy, _⟩
   ·rw [hmL] at h11
    have h11 := Option.some.inj h11
    subst h11
    exact h12
   ·rw [h4'] at hy; cases hy
 have hcom : mL.x.commit = k + 1 := by
  have h5 := b2.mid
  have h6 := b1.at.2.1
  have h7 : k + 1 ≤ mL.x.mid := QlP (by rw [b1.id, b1.n]; exact hLn) (by rw [b1.last]; exact Int.le_refl _) (fun j hj hjn => by
   rw [(Zk (hpe j (by rw [← b1.n]; exact hj) (by rw [← b1.id]; exact hjn))).1]; exact Int.le_refl _)
  omega
 refine ⟨h3.len, hLn, fun i m hi => ?_, h4'⟩
 by_cases e : i = L
 ·subst e
  rw [hmL] at hi
  have hi := Option.some.inj hi
  subst hi
  refine ⟨b1, fun _ => ⟨b2.role, b2.leader, b2.pat, hcom, b2.l, fun j hj hjL => ?_⟩, fun e => absurd rfl e⟩
  rw [hpe j hj hjL, show k + 1 + 1 = k + 2 by omega]
 ·obtain ⟨d1, d2⟩ := (h3.ms i m hi).2 e
  refine ⟨?_, fun e' => absurd e' e, fun _ => ⟨d1, fun h => h.elim⟩⟩
  rcases d2 with ⟨_, y, hy, _⟩ | ⟨d3, _⟩
  ·rw [h4'] at hy; cases hy
  ·exact d3
theorem Zj (G : GS) (n j : Nat) : G.roundsS n (j + 1) = (G.roundsS n j).roundS n := rfl
theorem Qaa (G : GS) (n : Nat) : G.roundsS n 0 = G := rfl
theorem PS.rounds {n L : Nat} {T k t : Int} {w : List Bs} {p b : Int} {y : Prop} {G : GS} (h : PS n L T k t w p b y G) (hn : n ≤ 9) (hp : 0 ≤ p ∧ p ≤ 2) (hb : 0 ≤ b ∧ b ≤ 5) : ∀ j : Nat, ∃ p' b' : Int, (0 ≤ p' ∧ p' ≤ 2) ∧ (if p + j ≥ 3 then (b' = p' ∧ PS n L T k t w p' b' True (G.roundsS n j)) else (p' = p + j ∧ b' = b + j ∧ PS n L T k t w p' b' y (G.roundsS n j)))
 | 0 => ⟨p, b, hp, by rw [if_neg (by simp; omega)]; exact ⟨by simp, by simp, h⟩⟩
 | j + 1 => by
  obtain ⟨p1, b1, hp1, h1⟩ := h.rounds hn hp hb j
  rw [Zj]
  by_cases hj : p + (j : Int) ≥ 3
  ·rw [if_pos hj] at h1
   obtain ⟨e1, h1⟩ := h1
   have h2 := h1.round hn hp1 (by omega)
   by_cases hq : p1 + 1 ≥ 3
   ·rw [if_pos hq] at h2
    exact ⟨0, 0, by omega, by rw [if_pos (by omega)]; exact ⟨rfl, h2⟩⟩
   ·rw [if_neg hq] at h2
    exact ⟨p1 + 1, b1 + 1, by omega, by rw [if_pos (by omega)]; exact ⟨by omega, h2⟩⟩
  ·rw [if_neg hj] at h1
   obtain ⟨e1, e2, h1⟩ := h1
   have h2 := h1.round hn hp1 (by omega)
   by_cases hq : p1 + 1 ≥ 3
   ·rw [if_pos hq] at h2
    exact ⟨0, 0, by omega, by rw [if_pos (by omega)]; exact ⟨rfl, h2⟩⟩
   ·rw [if_neg hq] at h2
    exact ⟨p1 + 1, b1 + 1, by omega, by rw [if_neg (by omega)]; exact ⟨by omega, by omega, h2⟩⟩
def St (n L : Nat) (T k t : Int) (w : List Bs) (G : GS) : Prop := ∃ p, (0 ≤ p ∧ p ≤ 2) ∧ PS n L T k t w p p True G
theorem PS.st3 {n L : Nat} {T k t : Int} {w : List Bs} {p b : Int} {y : Prop} {G : GS} (h : PS n L T k t w p b y G) (hn : n ≤ 9) (hp : 0 ≤ p ∧ p ≤ 2) (hb : 0 ≤ b ∧ b ≤ 5) {j : Nat} (hj : 3 ≤ j) : St n L T k t w (G.roundsS n j) := by
 obtain ⟨p', b', h1, h2⟩ := h.rounds hn hp hb j
 rw [if_pos (by omega)] at h2
 obtain ⟨e, h2⟩ := h2
 subst e
 exact ⟨_, h1, h2⟩
theorem St.rounds {n L : Nat} {T k t : Int} {w : List Bs} {G : GS} (h : St n L T k t w G) (hn : n ≤ 9) (j : Nat) : St n L T k t w (G.roundsS n j) := by
 obtain ⟨p, hp, h⟩ := h
 obtain ⟨p', b', h1, h2⟩ := h.rounds hn hp (by omega) j
 split at h2
 ·obtain ⟨e, h2⟩ := h2
  subst e
  exact ⟨_, h1, h2⟩
 ·obtain ⟨e1, e2, h2⟩ := h2
  have : b' = p' := by omega
  subst this
  exact ⟨_, h1, h2⟩
theorem Qa7 (G : GS) (n : Nat) : ∀ j, G.roundsS n (j + 1) = (G.roundS n).roundsS n j
 | 0 => by rw [Zj, Qaa, Qaa]
 | j + 1 => by rw [Zj, Qa7 G n j, ← Zj]
theorem St.cmd {n L : Nat} {T k t : Int} {w : List Bs} {G : GS} (h : St n L T k t w G) (hn : n ≤ 9) (c : Bs) {j : Nat} (hj : 4 ≤ j) : (G.propS L c).1.1 = k + 1 ∧ St n L T (k + 1) T (ZB w c) ((G.propS L c).2.roundsS n j) := by
 obtain ⟨p, hp, h⟩ := h
 obtain ⟨h1, h2⟩ := h.prop c
 have h3 := h2.round hn hp (by omega)
 refine ⟨h1, ?_⟩
 obtain ⟨i, rfl⟩ : ∃ i, j = i + 1 := ⟨j - 1, by omega⟩
 rw [Qa7]
 refine h3.st3 hn ?_ (by omega) (by omega)
 split <;> omega
theorem St.leads {n L : Nat} {T k t : Int} {w : List Bs} {G : GS} (h : St n L T k t w G) : G.leads n = ((L : Int), true) := by
 obtain ⟨p, hp, h⟩ := h
 have hL := h.lt
 have h1 : ∀ i, i < n → G.leader i = L ∧ G.term i = T := fun i hi => by
  obtain ⟨m, hm⟩ := h.mem hi
  obtain ⟨c1, c2, c3⟩ := h.ms i m hm
  obtain ⟨e1, e2, e3⟩ := GS.at_l hm
  refine ⟨?_, by rw [e2]; exact c1.term⟩
  rw [e1]
  by_cases e : i = L
  ·exact (c2 e).leader
  ·exact ((c3 e).2 trivial).1
 have h2 : G.alike n = true := by
  unfold GS.alike
  rw [List.all_eq_true]
  intro i hi
  have hi : i < n := by simpa using hi
  have h0 := h1 0 (by omega)
  have hi := h1 i hi
  simp [h0.1, h0.2, hi.1, hi.2]
 obtain ⟨m, hm⟩ := h.mem hL
 have hr := ((h.ms L m hm).2.1 rfl).role
 have h3 := (GS.at_l hm).2.2
 have h0 := h1 0 (by omega)
 unfold GS.leads
 rw [if_pos h2, h0.1, h3, hr]
 simp
theorem St.l {n L : Nat} {T k t : Int} {w : List Bs} {G : GS} (h : St n L T k t w G) : ∀ m ∈ G.ms, m.l = w ∧ m.ap = k := fun m hm => by
 obtain ⟨p, hp, h⟩ := h
 obtain ⟨i, hi⟩ := List.mem_iff_getElem?.1 hm
 obtain ⟨c1, c2, c3⟩ := h.ms i m hi
 have hc : m.x.commit = k := by
  by_cases e : i = L
  ·exact (c2 e).com
  ·exact ((c3 e).2 trivial).2
 have hA := c1.A.t
 have hl2 : m.x.g.last = m.x.g.base + m.x.g.all.length := rfl
 have hl := c1.last
 rw [c1.ap, hc, List.drop_eq_nil_of_le (by omega)] at hA
 exact ⟨by simpa [YO] using hA, by rw [c1.ap, hc]⟩
theorem round1 {G : GS} (h : (G.tickS 0).st = []) : G.roundS 1 = G.tickS 0 := by
 have e : G.ticksS 1 = G.tickS 0 := rfl
 show (G.ticksS 1).delsS 200 = _
 rw [e]
 have : ∀ j, (G.tickS 0).delsS j = G.tickS 0 := fun j => by
  induction j with
  | zero => rfl
  | succ j ih =>
   show ((G.tickS 0).delsS j).del1S = _
   rw [ih]
   unfold GS.del1S
   rw [h, if_neg (by simp)]
 exact this 200
set_option maxRecDepth 100000
def QbC (a : Int) : List Int → List Int
 | [] => [a]
 | b :: l => if a ≤ b then a :: b :: l else b :: QbC a l
def QbQ (l : List Int) : List Int := l.foldr QbC []
theorem Qak (a : Int) : ∀ l : List Int, (QbC a l).Perm (a :: l)
 | [] => .refl _
 | b :: l => by
  unfold QbC
  split
  ·exact .refl _
  ·exact ((Qak a l).cons b).trans (.swap a b l)
theorem Qdi (a : Int) : ∀ {l : List Int}, l.Pairwise (fun a b => decide (a ≤ b) = true) → (QbC a l).Pairwise (fun a b => decide (a ≤ b) = true)
 | [], _ => by simp [QbC]
 | b :: l, h => by
  unfold QbC
  rw [List.pairwise_cons] at h
  split
  ·rename_i h1
   refine List.pairwise_cons.2 ⟨fun c hc => ?_, List.pairwise_cons.2 h⟩
   rcases List.mem_cons.1 hc with hc | hc
   ·subst hc; simpa using h1
   ·have := h.1 c hc; simp at *; omega
  ·refine List.pairwise_cons.2 ⟨fun c hc => ?_, Qdi a h.2⟩
   rcases List.mem_cons.1 ((Qak a l).mem_iff.1 hc) with hc | hc
   ·subst hc; simp; omega
   ·exact h.1 c hc
theorem Qiu (l : List Int) : l.mergeSort (fun a b => decide (a ≤ b)) = QbQ l := by
 have h1 := List.mergeSort_perm l (fun a b => decide (a ≤ b))
 have h2 := List.pairwise_mergeSort (le := fun (a b : Int) => decide (a ≤ b)) (fun a b c h1 h2 => by simp at *; omega) (fun a b => by simp; omega) l
 have h3 : (QbQ l).Perm l ∧ (QbQ l).Pairwise (fun a b => decide (a ≤ b) = true) := by
  unfold QbQ
  clear h1 h2
  induction l with
  | nil => exact ⟨.refl _, .nil⟩
  | cons a l ih => exact ⟨(Qak a _).trans (ih.1.cons a), Qdi a ih.2⟩
 exact List.Perm.eq_of_pairwise (le := fun (a b : Int) => decide (a ≤ b) = true) (fun a b _ _ h1 h2 => by simp at *; omega) h2 h3.2 (h1.trans h3.1.symm)
def QgF (x : ND) : Int := (QbQ x.reach).getD ((x.n - 1) / 2) 0
def Qat (x : ND) : ND := if QgF x > x.commit ∧ x.tAt (QgF x) = x.g.term then { x with commit := QgF x } else x
theorem QcP : ND.count = Qat := by funext x; unfold ND.count Qat ND.mid QgF; rw [Qiu]
def qZ (s : NS) (cmd : Bs) : Bool × NS := QY (QN s (s.1.g.addD s.2 s.1.g.last [(s.1.g.term, cmd)])) fun s => (true, ((Qat s.1).feedAll, s.2))
theorem QfU : QT = qZ := by funext s c; unfold QT qZ; rw [QcP]
def Qf6 (s : NS) : Bool × NS := qZ (s.1.wins, s.2) []
theorem Qjy : Zu = Qf6 := by funext s; unfold Zu Qf6; rw [QfU]
def QdU (s : NS) : Bool × NS := QY (QN s (s.1.g.setTermD s.2 (s.1.g.term + 1) s.1.id)) fun s =>
 if s.1.n = 1 then Qf6 (s.1.stands, s.2) else (true, (s.1.stands.askAll, s.2))
theorem Qj8 : YC = QdU := by funext s; unfold YC QdU; rw [Qjy]
def Qgd (s : NS) : Bool × NS :=
 if s.1.role = 2 then if s.1.patience + 1 ≥ 3 then (true, ({ s.1 with patience := 0 }.feedAll, s.2)) else (true, ({ s.1 with patience := s.1.patience + 1 }, s.2))
 else if s.1.patience + 1 ≥ YX s.1.id s.1.g.term then QdU ({ s.1 with patience := s.1.patience + 1 }, s.2) else (true, ({ s.1 with patience := s.1.patience + 1 }, s.2))
theorem Qlm : Yr = Qgd := by funext s; unfold Yr Qgd; rw [Qj8]
def QdI (s : NS) (m : Msg) : Bool × NS :=
 if ¬ s.1.role = 1 ∨ ¬ m.term = s.1.g.term ∨ m.ok = false then (true, s)
 else if 2 * ((QU s.1.votes m.frm).length : Int) > s.1.n then Qf6 ({ s.1 with votes := QU s.1.votes m.frm }, s.2)
 else (true, ({ s.1 with votes := QU s.1.votes m.frm }, s.2))
theorem QjW : Ye = QdI := by funext s m; unfold Ye QdI; rw [Qjy]
def Qb5 (s : NS) (m : Msg) : Bool × NS :=
 if ¬ s.1.role = 2 ∨ ¬ m.term = s.1.g.term then (true, s)
 else
  let to := m.frm.toNat
  if m.ok = false then (true, ((s.1.setPeer to (max (min (s.1.nxt to - 1) (m.index + 1)) (s.1.mat to + 1), s.1.mat to)).feed to, s.2))
  else
   let k := max (s.1.mat to) (min m.index s.1.g.last)
   let x := Qat (s.1.setPeer to (k + 1, k))
   if k + 1 ≤ x.g.last then (true, (x.feed to, s.2)) else (true, (x, s.2))
theorem QfN : XZ = Qb5 := by funext s m; unfold XZ Qb5; rw [QcP]
def QdA (s : NS) (m : Msg) : Bool × NS :=
 if m.kind = 0 then YR s m else if m.kind = 1 then QdI s m else if m.kind = 2 ∨ m.kind = 4 then YG s m else if m.kind = 3 then Qb5 s m else (true, s)
theorem QlS : Yg = QdA := by funext s m; unfold Yg QdA; rw [QjW, QfN]
def Qbr (s : NS) (m : Msg) : Bool × NS :=
 if ¬ m.to = s.1.id ∨ m.frm = s.1.id ∨ m.frm < 0 ∨ m.frm ≥ s.1.n then (true, s)
 else if m.term > s.1.g.term then QY (QN s (s.1.g.setTermD s.2 m.term (-1))) fun s => QdA (s.1.newTerm, s.2) m
 else QdA s m
theorem Qhv : Xl = Qbr := by funext s m; unfold Xl Qbr; rw [QlS]
def yb (s : NS) (cmd : Bs) : (Int × Int × List Msg) × NS :=
 if ¬ s.1.role = 2 then ((0, 0, []), s) else if Xn (Xt s (fun s => qZ s cmd)).2 = true then ((0, 0, []), (Xt s (fun s => qZ s cmd)).2)
 else (((Xt s (fun s => qZ s cmd)).2.1.g.last, (Xt s (fun s => qZ s cmd)).2.1.g.term, (Xt s (fun s => qZ s cmd)).1), (Xt s (fun s => qZ s cmd)).2)
theorem QhB : XA = yb := by funext s c; unfold XA yb; rw [QfU]
def QbY (m : MS) : MS × List Msg := m.act (Xt (m.x, m.D) Qgd)
def QbZ (m : MS) (g : Msg) : MS × List Msg := m.act (Xt (m.x, m.D) (fun s => Qbr s g))
def Qai (m : MS) (c : Bs) : (Int × Int) × (MS × List Msg) := (((yb (m.x, m.D) c).1.1, (yb (m.x, m.D) c).1.2.1), m.act ((yb (m.x, m.D) c).1.2.2, (yb (m.x, m.D) c).2))
theorem Qkw : MS.tick = QbY := by funext m; unfold MS.tick QbY; rw [Qlm]
theorem Qky : MS.recv = QbZ := by funext m g; unfold MS.recv QbZ; rw [Qhv]
theorem QkA : MS.prop = Qai := by funext m c; unfold MS.prop Qai; rw [QhB]
def Qev (G : GS) (i : Nat) : GS := match G.ms[i]? with
 | none => G
 | some m => G.done i (QbY m).1 (QbY m).2
theorem QkK : GS.tick = Qev := by funext G i; unfold GS.tick Qev; rw [Qkw]; try rfl
def QdB (G : GS) (k : Int) : GS :=
 if XU G.st k = true then
  if 0 ≤ (atM G.st k).2.to then match G.ms[(atM G.st k).2.to.toNat]? with
   | none => G.take k
   | some m => (G.take k).done (atM G.st k).2.to.toNat (QbZ m (atM G.st k).2).1 (QbZ m (atM G.st k).2).2
  else G.take k
 else G
theorem QlX : GS.deliver = QdB := by funext G k; unfold GS.deliver QdB; rw [Qky]; try rfl
def Qew (G : GS) (i : Nat) (c : Bs) : (Int × Int) × GS := match G.ms[i]? with
 | none => ((0, 0), G)
 | some m => ((Qai m c).1, G.done i (Qai m c).2.1 (Qai m c).2.2)
theorem yX : GS.propose = Qew := by funext G i c; unfold GS.propose Qew; rw [QkA]; try rfl
def QaP (G : GS) (k : Nat) : GS := (List.range k).foldl Qev G
theorem Qeu : GS.ticks = QaP := by funext G k; unfold GS.ticks QaP; rw [QkK]
def Qal (G : GS) : Nat → GS
 | 0 => G
 | k + 1 => if G.st.length > 0 then Qal (QdB G 0) k else G
theorem Qdq (G : GS) : ∀ k, G.dels (k + 1) = G.del1.dels k
 | 0 => rfl
 | k + 1 => by
  show (G.dels (k + 1)).del1 = (G.del1.dels k).del1
  rw [Qdq G k]
theorem QcI : ∀ (k : Nat) (G : GS), G.dels k = Qal G k
 | 0, G => rfl
 | k + 1, G => by
  unfold Qal
  split
  ·rename_i h
   rw [Qdq, QcI k, show G.del1 = QdB G 0 by unfold GS.del1; rw [if_pos h, QlX]]
  ·rename_i h
   rw [zn (k := 0) (by omega) (by show G.st.length = 0; omega)]
   rfl
def QaQ (G : GS) (n : Nat) : GS := Qal (QaP G n) 200
theorem Qi9 : GS.round = QaQ := by funext G n; unfold GS.round QaQ; rw [Qeu, QcI]
def zm (G : GS) (n : Nat) : Nat → GS
 | 0 => G
 | k + 1 => QaQ (zm G n k) n
theorem XV : ∀ (k : Nat) (G : GS) (n : Nat), G.rounds n k = zm G n k
 | 0, _, _ => rfl
 | k + 1, G, n => by show (G.rounds n k).round n = QaQ (zm G n k) n; rw [XV k, Qi9]
theorem QmY : AwOK 1 where
 l1 := by rw [XV]; decide +kernel
 p := by rw [XV, yX]; decide +kernel
 t0 := by decide
 l2 := by rw [XV, XV, yX]; decide +kernel
 o := by rw [XV, XV, yX]; decide +kernel
 d := fun m hm => by
  have h : (((((GS.new 3).rounds 3 60).propose 0 [97]).2.rounds 3 10).ms[0]?).map (fun m => m.l.length) = some 1 := by rw [XV, XV, yX]; decide +kernel
  rw [hm] at h; simpa using h
 a := fun m hm => by
  have h : (((((GS.new 3).rounds 3 60).propose 0 [97]).2.rounds 3 10).ms[1]?).map (fun m => m.ap) = some 2 := by rw [XV, XV, yX]; decide +kernel
  rw [hm] at h; simpa using h
set_option maxRecDepth 100000
def QcN (x : ND) (cmd : Bs) : ND := (Qat { x with g := x.g.play (.add x.g.last [(x.g.term, cmd)]) }).feedAll
theorem Qjg : ND.entryP = QcN := by funext x c; unfold ND.entryP QcN; rw [QcP]
def Qdz (x : ND) : ND := QcN x.wins []
theorem Qg5 : ND.winP = Qdz := by funext x; unfold ND.winP Qdz; rw [Qjg]
def Qcp (x : ND) : ND := if x.n = 1 then Qdz (ND.stands { x with g := { x.g with term := x.g.term + 1, vote := x.id } }) else (ND.stands { x with g := { x.g with term := x.g.term + 1, vote := x.id } }).askAll
theorem Qir : ND.standP = Qcp := by funext x; unfold ND.standP Qcp; rw [Qg5]
def QbN (x : ND) : ND :=
 if x.role = 2 then if x.patience + 1 ≥ 3 then ND.feedAll { x with patience := 0 } else { x with patience := x.patience + 1 }
 else if x.patience + 1 ≥ YX x.id x.g.term then Qcp { x with patience := x.patience + 1 } else { x with patience := x.patience + 1 }
theorem Qj0 : ND.tickP = QbN := by funext x; unfold ND.tickP QbN; rw [Qir]
def Qcm (x : ND) (m : Msg) : ND :=
 if ¬ x.role = 1 ∨ ¬ m.term = x.g.term ∨ m.ok = false then x
 else if 2 * ((QU x.votes m.frm).length : Int) > x.n then Qdz { x with votes := QU x.votes m.frm } else { x with votes := QU x.votes m.frm }
theorem Qil : ND.votedP = Qcm := by funext x m; unfold ND.votedP Qcm; rw [Qg5]
def QcE (x : ND) (m : Msg) : ND := (Qb5 (x, DK.new) m).2.1
theorem Qi3 : ND.heardP = QcE := by funext x m; unfold ND.heardP QcE; rw [QfN]
def Qb2 (x : ND) (m : Msg) : ND := if m.kind = 0 then x.askedP m else if m.kind = 1 then Qcm x m else if m.kind = 2 ∨ m.kind = 4 then x.fedP m else if m.kind = 3 then QcE x m else x
theorem QkE : ND.kindP = Qb2 := by funext x m; unfold ND.kindP Qb2; rw [Qil, Qi3]
def zw (x : ND) (m : Msg) : ND :=
 if ¬ m.to = x.id ∨ m.frm = x.id ∨ m.frm < 0 ∨ m.frm ≥ x.n then x
 else if m.term > x.g.term then Qb2 (ND.newTerm { x with g := { x.g with term := m.term, vote := -1 } }) m else Qb2 x m
theorem Qgt : ND.receiveP = zw := by funext x m; unfold ND.receiveP zw; rw [QkE]
def QaM (m : MS) : MS × List Msg := ({ m with x := (QbN m.x).q }, (QbN m.x).out)
theorem QiY : MS.tickS = QaM := by funext m; unfold MS.tickS QaM; rw [Qj0]
def QaN (m : MS) (g : Msg) : MS × List Msg := ({ m with x := (zw m.x g).q }, (zw m.x g).out)
theorem QiZ : MS.recvS = QaN := by funext m g; unfold MS.recvS QaN; rw [Qgt]
def QcG (G : GS) (i : Nat) : GS := match G.ms[i]? with
 | none => G
 | some m => G.doneS i (QaM m).1 (QaM m).2
theorem Qi8 : GS.tickS = QcG := by funext G i; unfold GS.tickS QcG; rw [QiY]; try rfl
def Qb7 (G : GS) (k : Int) : GS :=
 if XU G.st k = true then
  if 0 ≤ (atM G.st k).2.to then match G.ms[(atM G.st k).2.to.toNat]? with
   | none => G.take k
   | some m => (G.take k).doneS (atM G.st k).2.to.toNat (QaN m (atM G.st k).2).1 (QaN m (atM G.st k).2).2
  else G.take k
 else G
theorem QkO : GS.delS = Qb7 := by funext G k; unfold GS.delS Qb7; rw [QiZ]; try rfl
def QbE (G : GS) (k : Nat) : GS := (List.range k).foldl QcG G
theorem QhW : GS.ticksS = QbE := by funext G k; unfold GS.ticksS QbE; rw [Qi8]
def QaR (G : GS) : Nat → GS
 | 0 => G
 | k + 1 => if G.st.length > 0 then QaR (Qb7 G 0) k else G
theorem Qcd (G : GS) : ∀ k, G.delsS (k + 1) = G.del1S.delsS k
 | 0 => rfl
 | k + 1 => by
  show (G.delsS (k + 1)).del1S = (G.del1S.delsS k).del1S
  rw [Qcd G k]
theorem Qcc {G : GS} (h : ¬ G.st.length > 0) : ∀ k, G.delsS k = G
 | 0 => rfl
 | k + 1 => by
  show (G.delsS k).del1S = G
  rw [Qcc h k]
  unfold GS.del1S
  rw [if_neg h]
theorem Qey : ∀ (k : Nat) (G : GS), G.delsS k = QaR G k
 | 0, G => rfl
 | k + 1, G => by
  unfold QaR
  split
  ·rename_i h
   rw [Qcd, Qey k, show G.del1S = Qb7 G 0 by unfold GS.del1S; rw [if_pos h, QkO]]
  ·rename_i h
   exact Qcc h (k + 1)
def QbF (G : GS) (n : Nat) : GS := QaR (QbE G n) 200
theorem QhX : GS.roundS = QbF := by funext G n; unfold GS.roundS QbF; rw [QhW, Qey]
def Ze (G : GS) (n : Nat) : Nat → GS
 | 0 => G
 | k + 1 => QbF (Ze G n k) n
theorem yR : ∀ (k : Nat) (G : GS) (n : Nat), G.roundsS n k = Ze G n k
 | 0, _, _ => rfl
 | k + 1, G, n => by rw [Zj, yR k, QhX]; rfl
set_option maxRecDepth 100000
structure Smy where
 id : Nat
 n : Nat
 out : List Msg
 term : Int
 base : Int
 all : List Ent
 role : Int
 leader : Int
 commit : Int
 pat : Int
 peers : List (Int × Int)
 ap : Int
 l : List Bs
deriving DecidableEq
def smy (m : MS) : Smy := ⟨m.x.id, m.x.n, m.x.out, m.x.g.term, m.x.g.base, m.x.g.all, m.x.role, m.x.leader, m.x.commit, m.x.patience, m.x.peers, m.ap, m.l⟩
def Qiv (n i : Nat) : Smy := ⟨i, n, [], 1, 0, [(1, [])], if i = 0 then 2 else 0, 0, 1, 0, if i = 0 then (1, 0) :: List.replicate (n - 1) (2, 1) else [], 1, []⟩
structure G100 (n : Nat) (G : GS) : Prop where
 ms : G.ms.map smy = (List.range n).map (Qiv n)
 st : G.st.length = 0
theorem G100.st11 {n : Nat} {G : GS} (h : G100 n G) (hn : 0 < n) : St n 0 1 1 1 [] G.er := by
 have hlen : G.ms.length = n := by have := congrArg List.length h.ms; simpa using this
 refine ⟨0, by omega, by show (G.ms.map MS.er).length = n; simpa using hlen, hn, fun i me hi => ?_, List.length_eq_zero_iff.1 h.st⟩
 obtain ⟨m, hm, rfl⟩ : ∃ m, G.ms[i]? = some m ∧ m.er = me := by
  have hi : (G.ms.map MS.er)[i]? = some me := hi
  rw [List.getElem?_map] at hi
  cases hg : G.ms[i]? with
  | none => rw [hg] at hi; cases hi
  | some m => rw [hg] at hi; exact ⟨m, rfl, by simpa using hi⟩
 have hin : i < n := by have := (List.getElem?_eq_some_iff.1 hm).1; omega
 have hs : smy m = Qiv n i := by
  have h1 := congrArg (fun l => l[i]?) h.ms
  simp only [List.getElem?_map, hm] at h1
  rw [List.getElem?_range hin] at h1
  simpa using h1
 unfold smy Qiv at hs
 injection hs with a1 a2 a3 a4 a5 a6 a7 a8 a9 a10 a11 a12 a13
 have hlast : m.x.g.last = 1 := by unfold LG.last; rw [a5, a6]; rfl
 have hx : m.er.x = m.x := rfl
 refine ⟨⟨a1, a2, a3, a4, by rw [hx, a5]; exact Int.le_refl _, hlast, ?_, ?_, by show m.ap = m.x.commit; rw [a12, a9], ⟨by show m.x.g.base ≤ m.ap; omega, by show m.ap ≤ m.x.commit; omega, by show m.x.commit ≤ m.x.g.last; omega, ?_⟩⟩, fun e => ?_, fun e => ?_⟩
 ·rw [hx]
  unfold LG.termAt
  rw [if_neg (by omega), yU (by omega), a5, a6]; rfl
 ·rw [hx]; unfold QbH; rw [a5, a6]; rfl
 ·show m.l ++ YO (m.x.g.all.drop (m.ap - m.x.g.base).toNat) = []
  rw [a13, a6, a12, a5]; rfl
 ·subst e
  refine ⟨a7, a8, a10, a9, by rw [hx, a11]; simp; omega, fun j hj hj0 => ?_⟩
  rw [hx, a11, if_pos rfl]
  obtain ⟨j, rfl⟩ : ∃ i, j = i + 1 := ⟨j - 1, by omega⟩
  rw [List.getElem?_cons_succ, List.getElem?_replicate, if_pos (by omega)]
  rfl
 ·rw [if_neg e] at a7
  exact ⟨⟨a7, by rw [hx, a10]; omega⟩, fun _ => ⟨a8, a9⟩⟩
theorem QlY : G100 3 ((GS.new 3).rounds 3 100) := ⟨by rw [XV]; decide +kernel, by rw [XV]; decide +kernel⟩
theorem Qh0 : G100 5 ((GS.new 5).rounds 5 100) := ⟨by rw [XV]; decide +kernel, by rw [XV]; decide +kernel⟩
theorem Ql0 {G : GS} {m : MS} (h : m ∈ G.ms) : m.er ∈ G.er.ms := List.mem_map.2 ⟨m, h, rfl⟩
set_option maxRecDepth 100000
def Qbl (n L : Nat) (T k : Int) (w : List Bs) (all : List Ent) (prs : List (Int × Int)) (i : Nat) : Smy := ⟨i, n, [], T, 0, all, if i = L then 2 else 0, L, k, 0, if i = L then prs else [], k, w⟩
theorem QbP {n L : Nat} {T k t : Int} {w : List Bs} {all : List Ent} {prs : List (Int × Int)} {G : GS} (hms : G.ms.map smy = (List.range n).map (Qbl n L T k w all prs)) (hst : G.st.length = 0) (hL : L < n) (hk : k = all.length) (ht : all[(k - 1).toNat]?.map (·.1) = some t) (hk0 : 0 < k) (hw : YO all = w) (hl : prs.length = n) (hp : ∀ j, j < n → j ≠ L → prs[j]? = some (k + 1, k)) : St n L T k t w G := by
 have hlen : G.ms.length = n := by have := congrArg List.length hms; simpa using this
 refine ⟨0, by omega, hlen, hL, fun i m hm => ?_, List.length_eq_zero_iff.1 hst⟩
 have hin : i < n := by have := (List.getElem?_eq_some_iff.1 hm).1; omega
 have hs : smy m = Qbl n L T k w all prs i := by
  have h1 := congrArg (fun l => l[i]?) hms
  simp only [List.getElem?_map, hm] at h1
  rw [List.getElem?_range hin] at h1
  simpa using h1
 unfold smy Qbl at hs
 injection hs with a1 a2 a3 a4 a5 a6 a7 a8 a9 a10 a11 a12 a13
 have hlast : m.x.g.last = k := by unfold LG.last; rw [a5, a6]; omega
 refine ⟨⟨a1, a2, a3, a4, by rw [a5]; exact Int.le_refl _, hlast, ?_, ?_, by rw [a12, a9], ⟨by omega, by omega, by omega, ?_⟩⟩, fun e => ?_, fun e => ?_⟩
 ·unfold LG.termAt
  rw [if_neg (by omega), yU (by omega), a5, a6, show (k - 0 - 1).toNat = (k - 1).toNat by omega]
  exact ht
 ·unfold QbH; rw [a5, a6]; exact hw
 ·rw [a13, a6, a12, a5, List.drop_eq_nil_of_le (by omega)]; simp [YO]
 ·subst e
  rw [if_pos rfl] at a7 a11
  exact ⟨a7, a8, a10, a9, by rw [a11]; exact hl, fun j hj hj0 => by rw [a11]; exact hp j hj hj0⟩
 ·rw [if_neg e] at a7
  exact ⟨⟨a7, by omega⟩, fun _ => ⟨a8, a9⟩⟩
def QaE (G : GS) (n : Nat) : GS := Qal (QaP G n) 100
theorem Qiy : GS.round1 = QaE := by funext G n; unfold GS.round1 QaE; rw [Qeu, QcI]
theorem zf (G : GS) (n j : Nat) : G.rounds1 n (j + 1) = (G.rounds1 n j).round1 n := rfl
theorem Qab (G : GS) (n : Nat) : G.rounds1 n 0 = G := rfl
theorem Qac (G : GS) (n : Nat) : ∀ j, G.rounds1 n (j + 1) = (G.round1 n).rounds1 n j
 | 0 => by rw [zf, Qab, Qab]
 | j + 1 => by rw [zf, Qac G n j, ← zf]
def yW (n : Nat) : Nat → GS → List GS
 | 0, _ => []
 | k + 1, G => G :: yW n k (QaE G n)
theorem Qc0 (n : Nat) : ∀ (k r : Nat) (G : GS), r < k → (yW n k G)[r]? = some (G.rounds1 n r)
 | 0, _, _, h => by omega
 | k + 1, 0, G, _ => rfl
 | k + 1, r + 1, G, h => by
  rw [Qac, Qiy]
  show (yW n k (QaE G n))[r]? = _
  exact Qc0 n k r _ (by omega)
def obs (m : MS) : List Bs × Bool × LG × Bs × Nat := (m.l, m.dn, bif m.dn then LG.new else m.x.g, bif m.dn then m.D.b else [], bif m.dn then m.D.sure else 0)
def yh : LG := ⟨1, 0, 0, 0, [], [(1, [])], false⟩
def jD (c : Bs) : LG := ⟨1, 0, 0, 0, [], [(1, []), (1, c)], false⟩
def bAt (n i : Nat) : Bs × Nat := match (zm (GS.new n) n 100).ms[i]? with
 | some m => (m.D.b, m.D.sure)
 | none => ([], 0)
def qg (g : LG) : List Bs × Bool × LG × Bs × Nat := ([], false, g, [], 0)
def zg (n i : Nat) : List Bs × Bool × LG × Bs × Nat := ([], true, LG.new, (bAt n i).1, (bAt n i).2)
def QcA (n : Nat) (c : Bs) : GS := (Qew ((zm (GS.new n) n 100).downs n n) 0 c).2
theorem QlO (n : Nat) (c : Bs) (r : Nat) : GS.min1 n c r = (QcA n c).rounds1 n r := by unfold GS.min1 QcA; rw [XV, yX]
theorem QlV (n : Nat) (h : n = 3 ∨ n = 5) : ((GS.new n).rounds n 100).ms.map (fun m => (m.x.g, m.D.down, m.D.bound)) = List.replicate n (yh, false, false) := by
 rcases h with h | h <;> subst h <;> rw [XV] <;> kernel_rfl
def Qcz (c : Bs) (i : Nat) : Msg := { Msg.zero with kind := 2, frm := 0, to := i, term := 1, index := 1, logTerm := 1, commit := 1, es := [(1, c)] }
def ob3 (c : Bs) (r : Nat) : List (List Bs × Bool × LG × Bs × Nat) := if r = 0 then [qg (jD c), qg yh, qg yh] else [qg (jD c), zg 3 1, zg 3 2]
def ob5 (c : Bs) (r : Nat) : List (List Bs × Bool × LG × Bs × Nat) := if r = 0 then [qg (jD c), qg yh, qg yh, qg yh, qg yh] else [qg (jD c), zg 5 1, zg 5 2, zg 5 3, qg (jD c)]
def st3 (c : Bs) (r : Nat) : List XD := if r = 0 then [(129, Qcz c 1), (130, Qcz c 2)] else []
def st5 (c : Bs) (r : Nat) : List XD := if r = 0 then [(257, Qcz c 1), (258, Qcz c 2), (259, Qcz c 3), (260, Qcz c 4)] else []
theorem Qm0 (a : UInt8) (s : Bs) : (yW 3 61 (QcA 3 (a :: s))).map (fun G => (G.ms.map obs, G.st)) = (List.range 61).map (fun r => (ob3 (a :: s) r, st3 (a :: s) r)) := by kernel_rfl
theorem QmZ (a : UInt8) (s : Bs) : (yW 5 61 (QcA 5 (a :: s))).map (fun G => (G.ms.map obs, G.st)) = (List.range 61).map (fun r => (ob5 (a :: s) r, st5 (a :: s) r)) := by kernel_rfl
def gs3 (c : Bs) (i : Nat) : LG := if i = 0 then jD c else yh
def gs5 (c : Bs) (r i : Nat) : LG := if i = 0 ∨ (i = 4 ∧ ¬ r = 0) then jD c else yh
def qv (n : Nat) (gs : Nat → LG) : List MS := (List.range n).map fun i => Ym i n (gs i) DK.new
theorem QmC (a : UInt8) (s : Bs) (r : Nat) (hr : ¬ r = 0) (la : Int) (o : List OC) : (Ze ⟨qv 3 (gs3 (a :: s)), [], la, o⟩ 3 25).ms.map smy = (List.range 3).map (Qbl 3 0 2 3 [a :: s] [(1, []), (1, a :: s), (2, [])] [(3, 0), (4, 3), (4, 3)]) ∧ (Ze ⟨qv 3 (gs3 (a :: s)), [], la, o⟩ 3 25).st.length = 0 := ⟨by kernel_rfl, by kernel_rfl⟩
theorem QmB (a : UInt8) (s : Bs) (la : Int) (o : List OC) : (Ze ⟨qv 3 (gs3 (a :: s)), st3 (a :: s) 0, la, o⟩ 3 25).ms.map smy = (List.range 3).map (Qbl 3 0 2 3 [a :: s] [(1, []), (1, a :: s), (2, [])] [(3, 0), (4, 3), (4, 3)]) ∧ (Ze ⟨qv 3 (gs3 (a :: s)), st3 (a :: s) 0, la, o⟩ 3 25).st.length = 0 := ⟨by kernel_rfl, by kernel_rfl⟩
theorem QmA (a : UInt8) (s : Bs) (la : Int) (o : List OC) : (Ze ⟨qv 5 (gs5 (a :: s) 1), [], la, o⟩ 5 24).ms.map smy = (List.range 5).map (Qbl 5 3 2 2 [] [(1, []), (2, [])] [(3, 2), (3, 2), (3, 2), (2, 0), (3, 2)]) ∧ (Ze ⟨qv 5 (gs5 (a :: s) 1), [], la, o⟩ 5 24).st.length = 0 := ⟨by kernel_rfl, by kernel_rfl⟩
theorem Qmz (a : UInt8) (s : Bs) (la : Int) (o : List OC) : (Ze ⟨qv 5 (gs5 (a :: s) 0), st5 (a :: s) 0, la, o⟩ 5 25).ms.map smy = (List.range 5).map (Qbl 5 0 2 3 [a :: s] [(1, []), (1, a :: s), (2, [])] [(3, 0), (4, 3), (4, 3), (4, 3), (4, 3)]) ∧ (Ze ⟨qv 5 (gs5 (a :: s) 0), st5 (a :: s) 0, la, o⟩ 5 25).st.length = 0 := ⟨by kernel_rfl, by kernel_rfl⟩
set_option maxRecDepth 100000
theorem QgV {i n : Nat} {m : MS} {keep : Int} {rs : List Rec} {g : LG} (h : ZC (m.D.crash keep).b rs [] g) : ∃ D', DKh D' ∧ m.crash i n keep = { Ym i n g DK.new with D := D' } := by
 obtain ⟨t1, t2, t3⟩ := QcY h
 unfold MS.crash
 rw [t2, t3]
 have e : (m.D.crash keep).open (jR (m.D.crash keep).b) [] = (0, m.D.crash keep) := by unfold DK.open; rw [if_neg (by show ¬ false = true; decide), if_pos rfl]
 rw [e]
 refine ⟨m.D.crash keep, ⟨rfl, rfl⟩, ?_⟩
 unfold Ym
 split <;> rfl
theorem QfC {N : Nat} {g : LG} {D D' : DK} (h : SD N g D) (hb : D'.b = D.b) (hs : D'.sure = D.sure) (keep : Int) : ∃ rs, ZC (D'.crash keep).b rs [] g := by
 obtain ⟨s1, s2, s3, s4, s5, rs, s6, s7⟩ := h
 have hc : (D'.crash keep).b = D'.b := Qas (by rw [hs, hb, s2]) keep
 exact ⟨rs, by rw [hc, hb, s6]; simp, zb, s7⟩
theorem Qbb {n : Nat} {G : GS} {gs : Nat → LG} (hlen : G.ms.length = n) (ht : ∀ i m, G.ms[i]? = some m → ∃ rs, ZC (m.D.crash 0).b rs [] (gs i)) : ∀ k, k ≤ n → (G.crashes k).ms.length = n ∧ (G.crashes k).st = G.st ∧ ∀ i m, (G.crashes k).ms[i]? = some m → if i < k then (DKh m.D ∧ m.er = (Ym i n (gs i) DK.new)) else G.ms[i]? = some m
 | 0, _ => ⟨hlen, rfl, fun i m h => by rw [if_neg (by omega)]; exact h⟩
 | k + 1, hk => by
  obtain ⟨h1, h2, h3⟩ := Qbb hlen ht k (by omega)
  obtain ⟨m, hm⟩ : ∃ m, (G.crashes k).ms[k]? = some m := ⟨_, List.getElem?_eq_getElem (by rw [h1]; exact hk)⟩
  have h4 := h3 k m hm
  rw [if_neg (by omega)] at h4
  obtain ⟨rs, hrs⟩ := ht k m h4
  obtain ⟨D', hD', e⟩ := QgV (i := k) (n := n) hrs
  have ec : G.crashes (k + 1) = { G.crashes k with ms := (G.crashes k).ms.set k (m.crash k n 0) } := by
   show (G.crashes k).crash k 0 = _
   rw [jG hm, h1]
  rw [ec]
  refine ⟨by show ((G.crashes k).ms.set k _).length = n; rw [List.length_set]; exact h1, h2, ?_⟩
  refine Zy h3 (fun j mj hj hP => ?_) ?_
  ·rcases Nat.lt_or_ge j k with h5 | h5
   ·rw [if_pos h5] at hP; rw [if_pos (by omega)]; exact hP
   ·rw [if_neg (by omega)] at hP; rw [if_neg (by omega)]; exact hP
  ·rw [if_pos (by omega), e]
   refine ⟨hD', ?_⟩
   unfold MS.er Ym
   dsimp only
   split <;> rfl
theorem QgU {n : Nat} {G : GS} {gs : Nat → LG} (hlen : G.ms.length = n) (ht : ∀ i m, G.ms[i]? = some m → ∃ rs, ZC (m.D.crash 0).b rs [] (gs i)) : Hl (G.crashes n) ∧ (G.crashes n).er.ms = qv n gs ∧ (G.crashes n).er.st = G.st := by
 obtain ⟨h1, h2, h3⟩ := Qbb hlen ht n (Nat.le_refl n)
 have hin : ∀ i m, (G.crashes n).ms[i]? = some m → i < n := fun i m h => by have := (List.getElem?_eq_some_iff.1 h).1; omega
 refine ⟨fun m hm => ?_, ?_, h2⟩
 ·obtain ⟨i, hi⟩ := List.mem_iff_getElem?.1 hm
  have := h3 i m hi
  rw [if_pos (hin i m hi)] at this
  exact this.1
 ·apply List.ext_getElem?
  intro i
  show ((G.crashes n).ms.map MS.er)[i]? = _
  unfold qv
  rw [List.getElem?_map, List.getElem?_map]
  by_cases hi : i < n
  ·obtain ⟨m, hm⟩ : ∃ m, (G.crashes n).ms[i]? = some m := ⟨_, List.getElem?_eq_getElem (by rw [h1]; exact hi)⟩
   have := h3 i m hm
   rw [if_pos hi] at this
   rw [hm, List.getElem?_range hi]
   show some m.er = some _
   rw [this.2]
  ·rw [List.getElem?_eq_none (by omega), List.getElem?_eq_none (by simp; omega)]; rfl
theorem QiP {n a t a' t' : Nat} {I I' : Int} {G0 G : GS} {gs : Nat → LG} {obl : List (List Bs × Bool × LG × Bs × Nat)} (h0 : GI n a t I G0) (hg0 : G0.ms.map (fun m => (m.x.g, m.D.down, m.D.bound)) = List.replicate n (yh, false, false)) (h : GI n a' t' I' G) (hb : ∀ i m, G0.ms[i]? = some m → bAt n i = (m.D.b, m.D.sure)) (ho : G.ms.map obs = obl) (hob : ∀ i o, obl[i]? = some o → o = qg (gs i) ∨ (o = zg n i ∧ gs i = yh)) :
  (∀ m ∈ G.ms, m.l = []) ∧ ∀ i m, G.ms[i]? = some m → ∃ rs, ZC (m.D.crash 0).b rs [] (gs i) := by
 have key : ∀ i m, G.ms[i]? = some m → m.l = [] ∧ ∃ rs, ZC (m.D.crash 0).b rs [] (gs i) := fun i m hm => by
  have hi : i < n := by have := (List.getElem?_eq_some_iff.1 hm).1; rw [h.len.1] at this; exact this
  have h1 : obl[i]? = some (obs m) := by rw [← ho, List.getElem?_map, hm]; rfl
  rcases hob i _ h1 with h2 | ⟨h2, h3⟩
  ·unfold obs qg at h2
   simp only [Prod.mk.injEq] at h2
   obtain ⟨a1, a2, a3, _, _⟩ := h2
   rw [a2] at a3
   refine ⟨a1, ?_⟩
   rcases (h.ms i m hm).st with u | d
   ·have := QfC u.sd (D' := m.D) rfl rfl 0
    rw [← a3]
    exact this
   ·rw [qc d.1] at a2; cases a2
  ·unfold obs zg at h2
   simp only [Prod.mk.injEq] at h2
   obtain ⟨a1, a2, _, a4, a5⟩ := h2
   rw [a2] at a4 a5
   refine ⟨a1, ?_⟩
   obtain ⟨m0, hm0⟩ := h0.mem hi
   have hb0 := hb i m0 hm0
   rw [hb0] at a4 a5
   have hg : (m0.x.g, m0.D.down, m0.D.bound) = (yh, false, false) := by
    have h5 : (G0.ms.map (fun m => (m.x.g, m.D.down, m.D.bound)))[i]? = some (m0.x.g, m0.D.down, m0.D.bound) := by rw [List.getElem?_map, hm0]; rfl
    rw [hg0, List.getElem?_replicate, if_pos hi] at h5
    exact (Option.some.inj h5).symm
   simp only [Prod.mk.injEq] at hg
   have u := (h0.ms i m0 hm0).up ⟨hg.2.1, hg.2.2⟩
   have := QfC u.sd (D' := m.D) a4 a5 0
   rw [hg.1] at this
   rw [h3]
   exact this
 refine ⟨fun m hm => ?_, fun i m hm => (key i m hm).2⟩
 obtain ⟨i, hi⟩ := List.mem_iff_getElem?.1 hm
 exact (key i m hi).1
theorem Qej {n L : Nat} {c : Bs} {r K : Nat} {T k t : Int} {w : List Bs} (hn : n = 3 ∨ n = 5) (hr : r ≤ 60) (hc : c.length ≤ 100) (hw : w = [] ∨ w = [c]) {gs : Nat → LG} {obl : List (List Bs × Bool × LG × Bs × Nat)} {st : List XD} (hG : G100 n ((GS.new n).rounds n 100)) (ho : (GS.min1 n c r).ms.map obs = obl) (hst : (GS.min1 n c r).st = st) (hob : ∀ i o, obl[i]? = some o → o = qg (gs i) ∨ (o = zg n i ∧ gs i = yh))
  (hK : K ≤ 200) (hend : ∀ la o, St n L T k t w ((⟨qv n gs, st, la, o⟩ : GS).roundsS n K)) (hk : 0 ≤ k) : MinOK n c r L := by
 have hn5 : 3 ≤ n ∧ n ≤ 5 := by omega
 have hJ0 : GJ n (20000 + 42000 + 6400 + 100 * (n + 200) + 20) (1000 + 60 * n + 1 + 60 * n + 100 * n + 100 + 900) (GS.new n) := (bud n).leq (by omega) (by omega) (GJ.new (by omega))
 have hJ1 := (bud n).rounds (G := GS.new n) (k := 100) (c := 20000 + 42000 + 6400 + 20) (d := 1000 + 60 * n + 1 + 60 * n + 100 + 900) ((bud n).leq (by omega) (by omega) hJ0)
 have hJ2 := (bud n).downs (G := (GS.new n).rounds n 100) (c := 20000 + 42000 + 6400 + 10) (d := 1000 + 60 * n + 1 + 60 * n + 100 + 900) (k := n) (Nat.le_refl n) ((bud n).leq (by omega) (by omega) hJ1)
 have hJ3 := (bud n).prop ((20000 + 42000 + 9) + r * (n + 100)) ((1000 + 60 * n + 100 + 900) + r * n) _ 0 c (by omega) hc ((bud n).leq (by have := Nat.mul_le_mul_right (n + 100) hr; omega) (by have := Nat.mul_le_mul_right n hr; omega) hJ2)
 have hJ4 := (bud n).rounds1 (k := r) hJ3
 have hJ4 : GJ n (20000 + 42000 + 9) (1000 + 60 * n + 100 + 900) (GS.min1 n c r) := hJ4
 obtain ⟨G0, hG0⟩ : ∃ G0, G0 = (GS.new n).rounds n 100 := ⟨_, rfl⟩
 have hgs := QlV n hn
 have hb : ∀ i m, G0.ms[i]? = some m → bAt n i = (m.D.b, m.D.sure) := fun i m hm => by
  unfold bAt
  rw [← XV, ← hG0, hm]
 rw [← hG0] at hJ1 hgs
 obtain ⟨a0, t0, I0, _, _, hI0⟩ := hJ1
 obtain ⟨H, hH⟩ : ∃ H, H = GS.min1 n c r := ⟨_, rfl⟩
 rw [← hH] at hJ4 ho hst
 obtain ⟨a1, t1, I1, _, _, hI1⟩ := id hJ4
 obtain ⟨hl, htell⟩ := QiP hI0 hgs hI1 hb ho hob
 obtain ⟨c1, c2, c3⟩ := QgU hI1.len.1 htell
 have hJ5 := (bud n).crashes (G := H) (c := 20000 + 42000 + 4) (d := 1000 + 60 * n + 100 + 900) (k := n) (Nat.le_refl n) ((bud n).leq (by omega) (Nat.le_refl _) hJ4)
 have hS5 : SJ11 n ((1 + 10 * (n + 200)) + 200 * (n + 200)) ((1 + 10 * n) + 200 * n) (H.crashes n) := ⟨(bud n).leq (by omega) (by omega) hJ5, c1⟩
 obtain ⟨hS6, e6⟩ := SJ11.rounds (n := n) (G := H.crashes n) (k := 200) hS5
 have hst6 : St n L T k t w ((H.crashes n).rounds n 200).er := by
  rw [e6]
  have e7 : (H.crashes n).er = ⟨qv n gs, st, (H.crashes n).last, (H.crashes n).out⟩ := by
   rw [← c2, ← hst, ← c3]; rfl
  rw [e7]
  have h8 := (hend (H.crashes n).last (H.crashes n).out).rounds (by omega) (200 - K)
  have e9 : ∀ (G : GS) (i j : Nat), (G.roundsS n i).roundsS n j = G.roundsS n (i + j) := fun G i j => by
   induction j with
   | zero => rfl
   | succ j ih => rw [Zj, ih, ← Nat.add_assoc, Zj]
  rw [e9, show K + (200 - K) = 200 by omega] at h8
  exact h8
 have hm2 : GS.min2 n c r = (H.crashes n).rounds n 200 := by rw [hH]; rfl
 obtain ⟨F, hF⟩ : ∃ F, F = (H.crashes n).rounds n 200 := ⟨_, rfl⟩
 rw [← hF] at hS6 hst6 hm2
 have hS7 : SJ11 n (10 * (n + 200) + 1) (10 * n + 1) F := hS6.leq (by omega) (by omega)
 have hLn : L < n := by
  obtain ⟨p, _, h⟩ := hst6
  exact h.lt
 obtain ⟨hS8, e8, e9⟩ := hS7.prop (i := L) (cmd := Za) hLn (by decide)
 have hS8' : SJ11 n (0 + 10 * (n + 200)) (0 + 10 * n) (F.propose L Za).2 := by rw [Nat.zero_add, Nat.zero_add]; exact hS8
 obtain ⟨hS9, e10⟩ := SJ11.rounds (n := n) (G := (F.propose L Za).2) (k := 10) (c := 0) (d := 0) hS8'
 obtain ⟨s1, s2⟩ := hst6.cmd (by omega) Za (j := 10) (by omega)
 rw [← e9, ← e10] at s2
 have hww : ZB w Za = w ++ [Za] := by unfold ZB; rw [if_neg (by decide)]
 rw [hww] at s2
 refine ⟨?_, ?_, hLn, ?_, ?_, ?_, ?_⟩
 ·have := (hG.st11 (by omega)).leads
  rw [QbA] at this
  exact this
 ·rw [← hH]; exact hl
 ·rw [hm2, ← QbA]
  exact hst6.leads
 ·rw [hm2, e8, s1]; omega
 ·rw [hm2, ← QbA, s2.leads]
 ·intro m hm
  rw [hm2] at hm
  have h5 := (s2.l _ (Ql0 (List.mem_of_getElem? hm))).1
  have h5 : m.l = w ++ [Za] := h5
  rcases hw with h6 | h6
  ·left; rw [h5, h6]; rfl
  ·right; rw [h5, h6]; rfl
theorem QdT {n : Nat} {c : Bs} {f : Nat → List (List Bs × Bool × LG × Bs × Nat) × List XD} (h : (yW n 61 (QcA n c)).map (fun G => (G.ms.map obs, G.st)) = (List.range 61).map f) {r : Nat} (hr : r ≤ 60) : (GS.min1 n c r).ms.map obs = (f r).1 ∧ (GS.min1 n c r).st = (f r).2 := by
 have h1 := Qc0 n 61 r (QcA n c) (by omega)
 rw [← QlO] at h1
 have h2 := congrArg (fun l => l[r]?) h
 simp only [List.getElem?_map] at h2
 rw [h1, List.getElem?_range (by omega)] at h2
 have h2 : some ((GS.min1 n c r).ms.map obs, (GS.min1 n c r).st) = some (f r) := h2
 have h3 := Option.some.inj h2
 exact ⟨by rw [← h3], by rw [← h3]⟩
theorem Qms (n : Nat) (c : Bs) (r : Nat) (hn : n = 3 ∨ n = 5) (hc0 : ¬ c = []) (hc : c.length ≤ 100) (hr : r ≤ 60) : MinOK n c r (if n = 5 ∧ ¬ r = 0 then 3 else 0) := by
 obtain ⟨a, s, rfl⟩ : ∃ a s, c = a :: s := by cases c with
  | nil => exact absurd rfl hc0
  | cons a s => exact ⟨a, s, rfl⟩
 have htx : YO [(1, []), (1, a :: s), (2, [])] = [a :: s] := rfl
 rcases hn with hn | hn
 ·subst hn
  rw [if_neg (by omega)]
  obtain ⟨o1, o2⟩ := QdT (Qm0 a s) hr
  refine Qej (.inl rfl) hr hc (.inr rfl) (gs := gs3 (a :: s)) (T := 2) (k := 3) (t := 2) (K := 25) QlY o1 o2 (fun i o hi => ?_) (by omega) (fun la o => ?_) (by omega)
  ·dsimp only at hi
   unfold ob3 at hi
   split at hi
   ·match i, hi with
    | 0, hi => exact .inl (Option.some.inj hi).symm
    | 1, hi => exact .inl (Option.some.inj hi).symm
    | 2, hi => exact .inl (Option.some.inj hi).symm
    | i + 3, hi => simp at hi
   ·match i, hi with
    | 0, hi => exact .inl (Option.some.inj hi).symm
    | 1, hi => exact .inr ⟨(Option.some.inj hi).symm, rfl⟩
    | 2, hi => exact .inr ⟨(Option.some.inj hi).symm, rfl⟩
    | i + 3, hi => simp at hi
  ·rw [yR]
   by_cases h0 : r = 0
   ·subst h0
    obtain ⟨e1, e2⟩ := QmB a s la o
    exact QbP e1 e2 (by omega) rfl rfl (by omega) htx rfl (fun j hj hj0 => by
     match j, hj, hj0 with
     | 1, _, _ => rfl
     | 2, _, _ => rfl)
   ·have es : st3 (a :: s) r = [] := by unfold st3; rw [if_neg h0]
    dsimp only
    rw [es]
    obtain ⟨e1, e2⟩ := QmC a s r h0 la o
    exact QbP e1 e2 (by omega) rfl rfl (by omega) htx rfl (fun j hj hj0 => by
     match j, hj, hj0 with
     | 1, _, _ => rfl
     | 2, _, _ => rfl)
 ·subst hn
  obtain ⟨o1, o2⟩ := QdT (QmZ a s) hr
  by_cases h0 : r = 0
  ·subst h0
   rw [if_neg (by omega)]
   refine Qej (.inr rfl) hr hc (.inr rfl) (gs := gs5 (a :: s) 0) (T := 2) (k := 3) (t := 2) (K := 25) Qh0 o1 o2 (fun i o hi => ?_) (by omega) (fun la o => ?_) (by omega)
   ·match i, hi with
    | 0, hi => exact .inl (Option.some.inj hi).symm
    | 1, hi => exact .inl (Option.some.inj hi).symm
    | 2, hi => exact .inl (Option.some.inj hi).symm
    | 3, hi => exact .inl (Option.some.inj hi).symm
    | 4, hi => exact .inl (Option.some.inj hi).symm
    | i + 5, hi => simp [ob5] at hi
   ·rw [yR]
    obtain ⟨e1, e2⟩ := Qmz a s la o
    exact QbP e1 e2 (by omega) rfl rfl (by omega) htx rfl (fun j hj hj0 => by
     match j, hj, hj0 with
     | 1, _, _ => rfl
     | 2, _, _ => rfl
     | 3, _, _ => rfl
     | 4, _, _ => rfl)
  ·rw [if_pos ⟨rfl, h0⟩]
   have eo : ob5 (a :: s) r = [qg (jD (a :: s)), zg 5 1, zg 5 2, zg 5 3, qg (jD (a :: s))] := by unfold ob5; rw [if_neg h0]
   have es : st5 (a :: s) r = [] := by unfold st5; rw [if_neg h0]
   dsimp only at o1 o2
   rw [eo] at o1
   rw [es] at o2
   refine Qej (.inr rfl) hr hc (.inl rfl) (gs := gs5 (a :: s) 1) (T := 2) (k := 2) (t := 2) (K := 24) Qh0 o1 o2 (fun i o hi => ?_) (by omega) (fun la o => ?_) (by omega)
   ·match i, hi with
    | 0, hi => exact .inl (Option.some.inj hi).symm
    | 1, hi => exact .inr ⟨(Option.some.inj hi).symm, rfl⟩
    | 2, hi => exact .inr ⟨(Option.some.inj hi).symm, rfl⟩
    | 3, hi => exact .inr ⟨(Option.some.inj hi).symm, rfl⟩
    | 4, hi => exact .inl (Option.some.inj hi).symm
    | i + 5, hi => simp at hi
   ·rw [yR]
    obtain ⟨e1, e2⟩ := QmA a s la o
    exact QbP e1 e2 (by omega) rfl rfl (by omega) rfl rfl (fun j hj hj0 => by
     match j, hj, hj0 with
     | 0, _, _ => rfl
     | 1, _, _ => rfl
     | 2, _, _ => rfl
     | 4, _, _ => rfl)
theorem QmQ (n : Nat) (hn : n = 3 ∨ n = 5) : GJ n (20000 + 42000 + 6400 + 100 * (n + 200) + 20) (1000 + 60 * n + 1 + 60 * n + 100 * n + 100 + 900) (GS.new n) := (bud n).leq (by omega) (by omega) (GJ.new (by omega))
end V
end Go.Proofs.YtenfjpigffjgmaaGreat
namespace Go.Proofs.YtenfjpigffjgmaaGreat
open Go.ChangeShapes Go.WideShapes Go.ChangeAt Go.RowKit
open V
set_option maxHeartbeats 1000000 in
set_option maxRecDepth 100000 in
theorem GroupMinor_holds_lifted (os : Os) (started : os.Started) (H : Type) (enc : TypeId × Value → H) :
  ReturnsInHanded {} Tryz.checked os 6 .any (Rows.groupMinorSpec.pre6 enc Tryz.prog Tryz.f6 Rows.groupMinorRow.domain false) (Rows.groupMinorSpec.post enc Tryz.prog Tryz.f6 false true false false) := by
 refine returnsInHanded_of_change (C := Tryz.checked) own started (by kernel_rfl) Tryz.func6
  (ChangeSpec.witness6 (enc := enc) (C := Tryz.checked) false ⟨#[], #[.bool false, .string ByteArray.empty, .int .u8 0], []⟩ 8 (by kernel_rfl) (by kernel_rfl) (by kernel_rfl) (by kernel_rfl)) ?_
 intro W base args ds gs before hval0 hW hcnd _
 have hval : ∀ (j : Nat) t v, Tryz.f6.params[j]? = some t → args[j]? = some v → Value.okWide Tryz.prog W .any base t v := hval0
 have hW' := hW
 obtain ⟨p, q, hA0, hV, rfl, hfz, hnd⟩ := hW
 have hA : DataW.TrodAll enc Tryz.prog W 0 (fun _ => true) true Tryz.f6.params.toList args.toList ds p := hA0
 rw [Tryz.params6] at hA hval
 obtain ⟨v0, vs0, d0, ds0, p0, q0, hargs, rfl, rfl, t0, r0⟩ := trodAll_cons hA
 obtain ⟨v1, vs1, d1, ds1, p1, q1, rfl, rfl, rfl, t1, r1⟩ := trodAll_cons r0
 obtain ⟨v2, vs2, d2, ds2, p2, q2, rfl, rfl, rfl, t2, r2⟩ := trodAll_cons r1
 obtain ⟨rfl, rfl, rfl⟩ := trodAll_nil r2
 obtain rfl : args = #[v0, v1, v2] := by cases args; simp_all
 obtain ⟨rfl, rfl⟩ := trodVars_none hV
 have lt0 : ∀ x ∈ p0, x.block < W.heap.size := by obtain ⟨m, hm⟩ := t0; exact DataW.trod_lt m _ _ _ hm
 obtain ⟨y0, h0⟩ : ∃ y, QgX (jw W) v0.cells.toList y := by obtain ⟨m, hm⟩ := t0; exact (Qgw Tryz.underlying4) W m _ _ hm
 obtain ⟨n0, rfl⟩ := okWide_bool Tryz.underlying4 (hval 0 4 v0 rfl rfl)
 obtain rfl : y0 = n0 := by have := h0; simp [Value.cells, QgX] at this; exact this.symm
 have lt1 : ∀ x ∈ p1, x.block < W.heap.size := by obtain ⟨m, hm⟩ := t1; exact DataW.trod_lt m _ _ _ hm
 obtain ⟨y1, h1⟩ : ∃ y, Qlq (jw W) v1.cells.toList y := by obtain ⟨m, hm⟩ := t1; exact (Qhw Tryz.underlying9) W m _ _ hm
 obtain ⟨n1, rfl⟩ := okWide_string Tryz.underlying9 (hval 1 9 v1 rfl rfl)
 obtain ⟨e1, h1⟩ := h1
 obtain rfl : n1 = str y1 := by simpa [Value.cells] using e1
 have lt2 : ∀ x ∈ p2, x.block < W.heap.size := by obtain ⟨m, hm⟩ := t2; exact DataW.trod_lt m _ _ _ hm
 obtain ⟨y2, h2⟩ : ∃ y, (QlT .u8) (jw W) v2.cells.toList y := by obtain ⟨m, hm⟩ := t2; exact (Qhx Tryz.underlying5) W m _ _ hm
 obtain ⟨n2, rfl⟩ := okWide_int Tryz.underlying5 (hval 2 5 v2 rfl rfl)
 obtain ⟨e2, h2⟩ := h2
 obtain rfl : y2 = n2 := by have := e2; simp [Value.cells] at this; exact this.symm
 clear hA0 hval0
 refine (QhM (Qes (c3 := 10000) (d3 := 1000) (bud 3) ((bud 3).leq (by omega) (by omega) (GJ.new (by decide))) 1 QmY bud QmQ _ _ _ h2 (fun n k => Qms n _ k))).mono fun e W' ⟨he, bel⟩ => ?_
 subst he
 exact ⟨_, rfl, _, _, _, [], _, [], hW', trodAll_mk1 (shut_bool Tryz.underlying4 _), (trodAll_cons_mk (Below.trod QcD (by kernel_rfl) (of_decide_eq_true (by kernel_rfl)) t0 bel lt0) (trodAll_cons_mk (Below.trod QcD (by kernel_rfl) (of_decide_eq_true (by kernel_rfl)) t1 bel lt1) (trodAll_cons_mk (Below.trod QcD (by kernel_rfl) (of_decide_eq_true (by kernel_rfl)) t2 bel lt2) trodAll_mk0))), rfl, bel.frame _, fun h => by cases h⟩
theorem GroupMinor_holds : Rows.GroupMinorSaid :=
 OpenClaim.holds_of_wide 6 Tryz.f6 rfl rfl rfl rfl rfl rfl rfl ⟨rfl, rfl, rfl, rfl, rfl⟩ rfl rfl rfl rfl rfl (by kernel_rfl) Tryz.func6 (by kernel_rfl)
  (of_decide_eq_true (by kernel_rfl)) (by unfold Func.isWrapper; first | (rw [if_pos (by decide +kernel)]; kernel_rfl) | (rw [if_neg (by decide +kernel)]; exact ⟨rfl, rfl⟩))
  (fun os started H enc _ => GroupMinor_holds_lifted os started H enc)
#print axioms GroupMinor_holds
end Go.Proofs.YtenfjpigffjgmaaGreat
