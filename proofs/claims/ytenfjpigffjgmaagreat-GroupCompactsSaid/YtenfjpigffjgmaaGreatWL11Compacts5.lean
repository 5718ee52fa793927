/- The law GroupCompacts of layer 11, for every input: what is compacted plays no part for what machines do. -/
import Derived.Test.YtenfjpigffjgmaaGreatWL11Compacts4
set_option linter.unusedSimpArgs false
set_option linter.unusedVariables false
namespace Go.Proofs.YtenfjpigffjgmaaGreat
open Go.RowKit
namespace V
set_option maxHeartbeats 4000000
theorem QlL {x : ND} (hid : x.id < x.n) {k : Int} (h1 : k ≤ x.g.last) (h2 : ∀ j, j < x.n → j ≠ x.id → k ≤ x.mat j) : k ≤ x.mid := by
 have hm := jh hid
 unfold ND.reach at hm
 rcases List.mem_cons.1 hm with hm | hm
 ·omega
 ·obtain ⟨j, hj, e⟩ := List.mem_map.1 hm
  obtain ⟨a, b⟩ := others_mem.1 hj
  rw [← e]
  exact h2 j a b
theorem PS.mem {n L : Nat} {T k t : Int} {w : List Bs} {p b : Int} {y : Prop} {G : GS} (h : PS n L T k t w p b y G) {i : Nat} (hi : i < n) : ∃ m, G.ms[i]? = some m := ⟨_, List.getElem?_eq_getElem (by rw [h.len]; exact hi)⟩
theorem PS.prop {n L : Nat} {T k t : Int} {w : List Bs} {p b : Int} {y : Prop} {G : GS} (h : PS n L T k t w p b y G) (c : Bs) : (G.propS L c).1.1 = k + 1 ∧ CQ n L T k t w c p b 0 (G.propS L c).2 := by
 have hLn := h.lt
 obtain ⟨m, hm⟩ := h.mem hLn
 obtain ⟨c1, c2, _⟩ := h.ms L m hm
 have c2 := c2 rfl
 obtain ⟨a1, a2, a3⟩ := c1.at
 have hl := c1.last
 have hb := c1.base
 obtain ⟨e1, e2⟩ := QbE (g := m.x.g) (T, c) hb
 rw [hl] at e1 e2
 have hz : ({ m.x with g := m.x.g.play (.add m.x.g.last [(m.x.g.term, c)]) } : ND) = { m.x with g := m.x.g.play (.add k [(T, c)]) } := by rw [hl, c1.term]
 have hmid : ND.mid { m.x with g := m.x.g.play (.add k [(T, c)]) } ≤ k + 1 := by
  refine Qd8 (x := { m.x with g := m.x.g.play (.add k [(T, c)]) }) (by show m.x.id < m.x.n; rw [c1.id, c1.n]; exact hLn) (by show (m.x.g.play _).last ≤ _; rw [e2]; exact Int.le_refl _) (fun j hj hjn => ?_)
  have hj : j < n := by rw [← c1.n]; exact hj
  have hjn : j ≠ L := by rw [← c1.id]; exact hjn
  rw [(Zo (x := { m.x with g := m.x.g.play (.add k [(T, c)]) }) (c2.peers j hj hjn)).1]
  dsimp only; omega
 have hll : m.x.g.last = m.x.g.base + m.x.g.all.length := rfl
 have hat : (m.x.g.play (.add k [(T, c)])).at (k + 1) = some (T, c) := by
  rw [za (by rw [e2]; show m.x.g.base < k + 1 ∧ _; omega), e1]
  show (m.x.g.all ++ [(T, c)])[(k + 1 - m.x.g.base - 1).toNat]? = _
  rw [List.getElem?_append_right (by omega), show (k + 1 - m.x.g.base - 1).toNat - m.x.g.all.length = 0 by omega]
  rfl
 obtain ⟨cm, hcnt, hcm1, hcm2, hcm3⟩ := Qev (x := { m.x with g := m.x.g.play (.add k [(T, c)]) }) (fun hgt => by
  have hgt : ND.mid { m.x with g := m.x.g.play (.add k [(T, c)]) } > m.x.commit := hgt
  have : ND.mid { m.x with g := m.x.g.play (.add k [(T, c)]) } = k + 1 := by have := c2.com; omega
  rw [this]
  unfold ND.tAt LG.termAt
  dsimp only
  rw [if_neg (by show ¬ k + 1 = m.x.g.base; omega), hat]
  exact c1.term.symm)
 have hcm4 : m.x.commit ≤ cm ∧ cm ≤ k + 1 := by
  refine ⟨hcm1, ?_⟩
  rcases hcm2 with h7 | h7
  ·have : cm = m.x.commit := h7
   omega
  ·omega
 obtain ⟨Y, hY⟩ : ∃ Y : ND, Y = { m.x with g := m.x.g.play (.add k [(T, c)]), commit := cm } := ⟨_, rfl⟩
 have hent : m.x.entryP c = Y.feedAll := by
  unfold ND.entryP
  rw [hz, hcnt, hY]
 have hYo : Y.out = [] := by rw [hY]; exact c1.out
 have hq : (m.x.entryP c).q = Y := by
  rw [hent, XT]
  exact qn hYo
 obtain ⟨g1, g2⟩ := c1.grow c (y := Y) (by rw [hY]) (by rw [hY]; exact hcm4) G.out
 have hp : m.propS c = ((k + 1, T), ({ m with x := Y }, (Y.others.map Y.feedMsg).map Y.stamp)) := by
  unfold MS.propS
  rw [if_pos c2.role, hq, hent, yA hYo, qM, hY]
  refine Prod.ext (Prod.ext e2 c1.term) rfl
 have eg : G.propS L c = ((k + 1, T), G.doneS L { m with x := Y } ((Y.others.map Y.feedMsg).map Y.stamp)) := by
  unfold GS.propS
  rw [hm]
  dsimp only
  rw [hp]
 rw [eg]
 refine ⟨rfl, ?_⟩
 have hfy : ∀ i, i < n → i ≠ L → isF L T k t c i (Y.stamp (Y.feedMsg i)) := fun i hi hiq => by
  refine Qem (n := n) (by rw [hY]; exact c1.id) (by rw [hY]; exact c1.term) (by rw [hY]; exact a1) (by rw [hY]; exact e2) ?_ (by rw [hY]; exact hat) (by rw [hY]; have := c2.com; exact ⟨by show k ≤ cm; omega, hcm4.2⟩) (by rw [hY]; exact c2.peers i hi hiq)
  rw [hY]
  unfold ND.tAt LG.termAt
  dsimp only
  rw [show (m.x.g.play (.add k [(T, c)])).base = m.x.g.base from rfl, show (m.x.g.play (.add k [(T, c)])).baseT = m.x.g.baseT from rfl, QaE (by omega) (Int.le_refl _)]
  have htl := c1.tl
  unfold LG.termAt at htl
  rw [htl]; rfl
 refine ⟨by show (G.ms.set L _).length = n; rw [List.length_set]; exact h.len, hLn, ?_, fun x hx => ?_, fun i hi hiL => ?_, ?_⟩
 ·refine Zs h.ms (fun j mj hj hP => ⟨fun e => absurd e hj, fun hjL => ⟨hP.1, by rw [if_pos (Nat.zero_le _)]; exact (hP.2.2 hjL).1⟩⟩) ⟨fun _ => ⟨g1, ?_, ?_, ⟨?_, ?_, ?_⟩, ?_⟩, fun e => absurd rfl e⟩
  ·rw [if_pos (Nat.zero_le _)]
   exact ⟨by rw [g2, hY]; exact c2.role, by rw [g2, hY]; exact c2.leader, by rw [g2, hY]; exact c2.pat, by rw [g2, hY]; exact hcm3, by rw [g2, hY]; exact c2.l⟩
  ·rw [g2, hY]; show k ≤ cm; have := c2.com; omega
  ·rw [g2, hY]; exact a1
  ·rw [g2, hY]
   unfold ND.tAt LG.termAt
   dsimp only
   rw [show (m.x.g.play (.add k [(T, c)])).base = m.x.g.base from rfl, show (m.x.g.play (.add k [(T, c)])).baseT = m.x.g.baseT from rfl, QaE (by omega) (Int.le_refl _)]
   have htl := c1.tl
   unfold LG.termAt at htl
   rw [htl]; rfl
  ·rw [g2, hY]; exact hat
  ·rw [g2, hY]; exact c2.peers
 ·have hx : x ∈ G.st ++ Xp G.last ((Y.others.map Y.feedMsg).map Y.stamp) := hx
  rw [h.st, List.nil_append] at hx
  have := ZW hx
  obtain ⟨m1, hm1, e⟩ := List.mem_map.1 this
  obtain ⟨j, hj, e'⟩ := List.mem_map.1 hm1
  obtain ⟨hj1, hj2⟩ := others_mem.1 hj
  rw [hY] at hj1 hj2
  have hj1 : j < n := by rw [← c1.n]; exact hj1
  have hj2 : j ≠ L := by rw [← c1.id]; exact hj2
  rw [← e, ← e']
  exact ⟨j, hj1, hj2, hfy j hj1 hj2⟩
 ·have hmem : Y.stamp (Y.feedMsg i) ∈ (Y.others.map Y.feedMsg).map Y.stamp := List.mem_map.2 ⟨_, List.mem_map.2 ⟨i, others_mem.2 ⟨by rw [hY]; show i < m.x.n; rw [c1.n]; exact hi, by rw [hY]; show i ≠ m.x.id; rw [c1.id]; exact hiL⟩, rfl⟩, rfl⟩
  obtain ⟨x, hx, e⟩ := zy (k := G.last) hmem
  refine ⟨x, ?_, by rw [e]; exact hfy i hi hiL⟩
  show x ∈ G.st ++ Xp G.last ((Y.others.map Y.feedMsg).map Y.stamp)
  exact List.mem_append_right _ hx
 ·rw [if_pos (Nat.zero_le _)]
  show (G.st ++ Xp G.last ((Y.others.map Y.feedMsg).map Y.stamp)).length ≤ n
  rw [h.st, List.nil_append, qD, List.length_map, List.length_map]
  have := ya Y
  have hYn : Y.n = n := by rw [hY]; exact c1.n
  rw [hYn] at this
  exact this
theorem CQ.round {n L : Nat} {T k t : Int} {w : List Bs} {c : Bs} {p b : Int} {G : GS} (h : CQ n L T k t w c p b 0 G) (hn : n ≤ 9) (hp : 0 ≤ p ∧ p ≤ 2) (hb : 0 ≤ b ∧ b ≤ 8) : PS n L T (k + 1) T (YL w c) (if p + 1 ≥ 3 then 0 else p + 1) (b + 1) False (G.roundS n) := by
 have h1 := h.ticks hp hb n (Nat.le_refl n)
 have hLn := h1.lt
 obtain ⟨s1, s2, s3⟩ := h1.st
 rw [if_neg (by omega)] at s3
 have h2 : CB n L T k t w c (if p + 1 ≥ 3 then 0 else p + 1) (b + 1) (G.ticksS n) := by
  refine ⟨h1.len, hLn, fun i m hi => ?_, fun x hx => ?_⟩
  ·obtain ⟨c1, c2⟩ := h1.ms i m hi
   have hin : i < n := by have := (List.getElem?_eq_some_iff.1 hi).1; rw [h1.len] at this; exact this
   refine ⟨fun e => ?_, fun e => ?_⟩
   ·obtain ⟨a, b1, _, _, d⟩ := c1 e
    rw [if_neg (by omega)] at b1
    exact ⟨a, b1, fun j hj hjL => .inl (d j hj hjL)⟩
   ·obtain ⟨a, b1⟩ := c2 e
    rw [if_neg (by omega)] at b1
    exact ⟨b1, .inl ⟨a, s2 i hin e⟩⟩
  ·obtain ⟨i, a1, a2, a3⟩ := s1 x hx
   exact ⟨i, a1, a2, .inl a3⟩
 have hmu : muW w2 (G.ticksS n).st ≤ 200 := by
  have : ∀ l : List XU, muW w2 l ≤ 2 * l.length := fun l => by
   induction l with
   | nil => exact Nat.le_refl _
   | cons x l ih =>
    have h5 : w2 x.2 ≤ 2 := by unfold w2; split <;> omega
    unfold muW at ih ⊢
    simp only [List.map_cons, List.sum_cons, List.length_cons]
    omega
  have := this (G.ticksS n).st
  omega
 obtain ⟨h3, h4⟩ := Qet (Inv := CB n L T k t w c (if p + 1 ≥ 3 then 0 else p + 1) (b + 1)) QgU (fun G x l hG hs => hG.del (by omega) hs) h2 hmu
 have h4' : (G.roundS n).st = [] := h4
 have h3 : CB n L T k t w c (if p + 1 ≥ 3 then 0 else p + 1) (b + 1) (G.roundS n) := h3
 obtain ⟨mL, hmL⟩ : ∃ m, (G.roundS n).ms[L]? = some m := ⟨_, List.getElem?_eq_getElem (by rw [h3.len]; exact hLn)⟩
 obtain ⟨b1, b2, b3⟩ := (h3.ms L mL hmL).1 rfl
 have hpe : ∀ j, j < n → j ≠ L → mL.x.peers[j]? = some (k + 2, k + 1) := fun j hj hjL => by
  obtain ⟨m, hm⟩ : ∃ m, (G.roundS n).ms[j]? = some m := ⟨_, List.getElem?_eq_getElem (by rw [h3.len]; exact hj)⟩
  rcases ((h3.ms j m hm).2 hjL).2 with ⟨_, y, hy, _⟩ | ⟨_, _, _, h10⟩
  ·rw [h4'] at hy; cases hy
  ·rcases h10 with ⟨mL', h11, h12⟩ | ⟨y, hy, _⟩
   ·rw [hmL] at h11
    have h11 := Option.some.inj h11
    subst h11
    exact h12
   ·rw [h4'] at hy; cases hy
 have hcom : mL.x.commit = k + 1 := by
  have h5 := b2.mid
  have h6 := b1.at.2.1
  have h7 : k + 1 ≤ mL.x.mid := QlL (by rw [b1.id, b1.n]; exact hLn) (by rw [b1.last]; exact Int.le_refl _) (fun j hj hjn => by
   rw [(Zo (hpe j (by rw [← b1.n]; exact hj) (by rw [← b1.id]; exact hjn))).1]; exact Int.le_refl _)
  omega
 refine ⟨h3.len, hLn, fun i m hi => ?_, h4'⟩
 by_cases e : i = L
 ·subst e
  rw [hmL] at hi
  have hi := Option.some.inj hi
  subst hi
  refine ⟨b1, fun _ => ⟨b2.role, b2.leader, b2.pat, hcom, b2.l, fun j hj hjL => ?_⟩, fun e => absurd rfl e⟩
  rw [hpe j hj hjL, show k + 1 + 1 = k + 2 by omega]
 ·obtain ⟨d1, d2⟩ := (h3.ms i m hi).2 e
  refine ⟨?_, fun e' => absurd e' e, fun _ => ⟨d1, fun h => h.elim⟩⟩
  rcases d2 with ⟨_, y, hy, _⟩ | ⟨d3, _⟩
  ·rw [h4'] at hy; cases hy
  ·exact d3
theorem qW (G : GS) (n j : Nat) : G.roundsS n (j + 1) = (G.roundsS n j).roundS n := rfl
theorem Qad (G : GS) (n : Nat) : G.roundsS n 0 = G := rfl
theorem PS.rounds {n L : Nat} {T k t : Int} {w : List Bs} {p b : Int} {y : Prop} {G : GS} (h : PS n L T k t w p b y G) (hn : n ≤ 9) (hp : 0 ≤ p ∧ p ≤ 2) (hb : 0 ≤ b ∧ b ≤ 5) : ∀ j : Nat, ∃ p' b' : Int, (0 ≤ p' ∧ p' ≤ 2) ∧ (if p + j ≥ 3 then (b' = p' ∧ PS n L T k t w p' b' True (G.roundsS n j)) else (p' = p + j ∧ b' = b + j ∧ PS n L T k t w p' b' y (G.roundsS n j)))
 | 0 => ⟨p, b, hp, by rw [if_neg (by simp; omega)]; exact ⟨by simp, by simp, h⟩⟩
 | j + 1 => by
  obtain ⟨p1, b1, hp1, h1⟩ := h.rounds hn hp hb j
  rw [qW]
  by_cases hj : p + (j : Int) ≥ 3
  ·rw [if_pos hj] at h1
   obtain ⟨e1, h1⟩ := h1
   have h2 := h1.round hn hp1 (by omega)
   by_cases hq : p1 + 1 ≥ 3
   ·rw [if_pos hq] at h2
    exact ⟨0, 0, by omega, by rw [if_pos (by omega)]; exact ⟨rfl, h2⟩⟩
   ·rw [if_neg hq] at h2
    exact ⟨p1 + 1, b1 + 1, by omega, by rw [if_pos (by omega)]; exact ⟨by omega, h2⟩⟩
  ·rw [if_neg hj] at h1
   obtain ⟨e1, e2, h1⟩ := h1
   have h2 := h1.round hn hp1 (by omega)
   by_cases hq : p1 + 1 ≥ 3
   ·rw [if_pos hq] at h2
    exact ⟨0, 0, by omega, by rw [if_pos (by omega)]; exact ⟨rfl, h2⟩⟩
   ·rw [if_neg hq] at h2
    exact ⟨p1 + 1, b1 + 1, by omega, by rw [if_neg (by omega)]; exact ⟨by omega, by omega, h2⟩⟩
def St (n L : Nat) (T k t : Int) (w : List Bs) (G : GS) : Prop := ∃ p, (0 ≤ p ∧ p ≤ 2) ∧ PS n L T k t w p p True G
theorem PS.st3 {n L : Nat} {T k t : Int} {w : List Bs} {p b : Int} {y : Prop} {G : GS} (h : PS n L T k t w p b y G) (hn : n ≤ 9) (hp : 0 ≤ p ∧ p ≤ 2) (hb : 0 ≤ b ∧ b ≤ 5) {j : Nat} (hj : 3 ≤ j) : St n L T k t w (G.roundsS n j) := by
 obtain ⟨p', b', h1, h2⟩ := h.rounds hn hp hb j
 rw [if_pos (by omega)] at h2
 obtain ⟨e, h2⟩ := h2
 subst e
 exact ⟨_, h1, h2⟩
theorem St.rounds {n L : Nat} {T k t : Int} {w : List Bs} {G : GS} (h : St n L T k t w G) (hn : n ≤ 9) (j : Nat) : St n L T k t w (G.roundsS n j) := by
 obtain ⟨p, hp, h⟩ := h
 obtain ⟨p', b', h1, h2⟩ := h.rounds hn hp (by omega) j
 split at h2
 ·obtain ⟨e, h2⟩ := h2
  subst e
  exact ⟨_, h1, h2⟩
 ·obtain ⟨e1, e2, h2⟩ := h2
  have : b' = p' := by omega
  subst this
  exact ⟨_, h1, h2⟩
theorem QaY (G : GS) (n : Nat) : ∀ j, G.roundsS n (j + 1) = (G.roundS n).roundsS n j
 | 0 => by rw [qW, Qad, Qad]
 | j + 1 => by rw [qW, QaY G n j, ← qW]
theorem St.cmd {n L : Nat} {T k t : Int} {w : List Bs} {G : GS} (h : St n L T k t w G) (hn : n ≤ 9) (c : Bs) {j : Nat} (hj : 4 ≤ j) : (G.propS L c).1.1 = k + 1 ∧ St n L T (k + 1) T (YL w c) ((G.propS L c).2.roundsS n j) := by
 obtain ⟨p, hp, h⟩ := h
 obtain ⟨h1, h2⟩ := h.prop c
 have h3 := h2.round hn hp (by omega)
 refine ⟨h1, ?_⟩
 obtain ⟨i, rfl⟩ : ∃ i, j = i + 1 := ⟨j - 1, by omega⟩
 rw [QaY]
 refine h3.st3 hn ?_ (by omega) (by omega)
 split <;> omega
theorem St.leads {n L : Nat} {T k t : Int} {w : List Bs} {G : GS} (h : St n L T k t w G) : G.leads n = ((L : Int), true) := by
 obtain ⟨p, hp, h⟩ := h
 have hL := h.lt
 have h1 : ∀ i, i < n → G.leader i = L ∧ G.term i = T := fun i hi => by
  obtain ⟨m, hm⟩ := h.mem hi
  obtain ⟨c1, c2, c3⟩ := h.ms i m hm
  obtain ⟨e1, e2, e3⟩ := GS.at_l hm
  refine ⟨?_, by rw [e2]; exact c1.term⟩
  rw [e1]
  by_cases e : i = L
  ·exact (c2 e).leader
  ·exact ((c3 e).2 trivial).1
 have h2 : G.alike n = true := by
  unfold GS.alike
  rw [List.all_eq_true]
  intro i hi
  have hi : i < n := by simpa using hi
  have h0 := h1 0 (by omega)
  have hi := h1 i hi
  simp [h0.1, h0.2, hi.1, hi.2]
 obtain ⟨m, hm⟩ := h.mem hL
 have hr := ((h.ms L m hm).2.1 rfl).role
 have h3 := (GS.at_l hm).2.2
 have h0 := h1 0 (by omega)
 unfold GS.leads
 rw [if_pos h2, h0.1, h3, hr]
 simp
theorem St.l {n L : Nat} {T k t : Int} {w : List Bs} {G : GS} (h : St n L T k t w G) : ∀ m ∈ G.ms, m.l = w ∧ m.ap = k := fun m hm => by
 obtain ⟨p, hp, h⟩ := h
 obtain ⟨i, hi⟩ := List.mem_iff_getElem?.1 hm
 obtain ⟨c1, c2, c3⟩ := h.ms i m hi
 have hc : m.x.commit = k := by
  by_cases e : i = L
  ·exact (c2 e).com
  ·exact ((c3 e).2 trivial).2
 have hA := c1.A.t
 have hl2 : m.x.g.last = m.x.g.base + m.x.g.all.length := rfl
 have hl := c1.last
 rw [c1.ap, hc, List.drop_eq_nil_of_le (by omega)] at hA
 exact ⟨by simpa [YM] using hA, by rw [c1.ap, hc]⟩
theorem St.comp {n L : Nat} {T k t : Int} {w : List Bs} {G : GS} (h : St n L T k t w G) (hk : 0 < k) (hw : w.length ≤ 100000 ∧ ∀ s ∈ w, s.length ≤ 100) {i : Nat} (hi : i < n) : (G.compS i).1 = 0 ∧ St n L T k t w (G.compS i).2 := by
 have hlw := h.l
 obtain ⟨p, hp, h⟩ := h
 obtain ⟨m, hm⟩ := h.mem hi
 obtain ⟨c1, c2, c3⟩ := h.ms i m hm
 obtain ⟨e1, e2⟩ := hlw m (List.mem_of_getElem? hm)
 obtain ⟨a1, a2, a3⟩ := c1.at
 have hl := c1.last
 have hl2 : m.x.g.last = m.x.g.base + m.x.g.all.length := rfl
 have hc : m.compS = (0, { m with x := { m.x with g := m.x.g.comp k (stB w) } }) := by
  unfold MS.compS
  rw [if_neg (by omega), e1, e2]
 have eg : G.compS i = (0, { G with ms := G.ms.set i { m with x := { m.x with g := m.x.g.comp k (stB w) } } }) := by
  unfold GS.compS
  rw [hm]
  dsimp only
  rw [hc]
 rw [eg]
 refine ⟨rfl, p, hp, by show (G.ms.set i _).length = n; rw [List.length_set]; exact h.len, h.lt, ?_, h.st⟩
 have hall : (m.x.g.comp k (stB w)).all = [] := by
  show m.x.g.all.drop (k - m.x.g.base).toNat = []
  exact List.drop_eq_nil_of_le (by omega)
 have hlast : (m.x.g.comp k (stB w)).last = k := by
  show k + ((m.x.g.comp k (stB w)).all.length : Int) = k
  rw [hall]; simp
 have hun := Qfd hw.2 hw.1
 refine Zs h.ms (fun j mj hj hP => hP) ⟨⟨c1.id, c1.n, c1.out, c1.term, by show 0 ≤ k; omega, hlast, ?_, ?_, c1.ap, ?_⟩, fun e => ?_, fun e => ⟨⟨(c3 e).1.role, (c3 e).1.pat⟩, (c3 e).2⟩⟩
 ·show (m.x.g.comp k (stB w)).termAt k = some t
  unfold LG.termAt
  rw [if_pos (show k = (m.x.g.comp k (stB w)).base from rfl)]
  show some ((m.x.g.termAt k).getD 0) = some t
  rw [c1.tl]; rfl
 ·show zO (m.x.g.comp k (stB w)) = w
  unfold zO
  rw [hall, if_pos (show (m.x.g.comp k (stB w)).base > 0 from hk)]
  show unS (stB w) ++ YM [] = w
  rw [hun]; simp [YM]
 ·refine ⟨by show k ≤ m.ap; omega, c1.A.c, by show m.x.commit ≤ (m.x.g.comp k (stB w)).last; rw [hlast]; exact a2, ?_⟩
  show m.l ++ YM ((m.x.g.comp k (stB w)).all.drop _) = w
  rw [hall, e1]; simp [YM]
 ·have := c2 e
  exact ⟨this.role, this.leader, this.pat, this.com, this.l, this.peers⟩
theorem BM.start {n : Nat} {T k t : Int} {w : List Bs} {i : Nat} {m : MS} (c1 : BM n T k t w i m) (hn : 0 < n) : BM n T k t w i (m.crashS i n) ∧ (m.crashS i n).x.role = 0 ∧ (m.crashS i n).x.patience = 0 ∧ (m.crashS i n).x.g = m.x.g := by
 have hb := c1.base
 obtain ⟨a1, a2, a3⟩ := c1.at
 have hl := c1.last
 unfold MS.crashS Yx
 by_cases h1 : m.x.g.base > 0
 ·rw [if_pos h1]
  refine ⟨⟨rfl, rfl, rfl, c1.term, hb, hl, c1.tl, c1.ct, rfl, ⟨Int.le_refl _, Int.le_refl _, by show m.x.g.base ≤ m.x.g.last; omega, ?_⟩⟩, rfl, rfl, rfl⟩
  show unS m.x.g.state ++ YM (m.x.g.all.drop (m.x.g.base - m.x.g.base).toNat) = w
  have := c1.ct
  unfold zO at this
  rw [if_pos h1] at this
  simpa using this
 ·rw [if_neg h1]
  have h0 : m.x.g.base = 0 := by omega
  refine ⟨⟨rfl, rfl, rfl, c1.term, hb, hl, c1.tl, c1.ct, by show (0 : Int) = m.x.g.base; omega, ⟨by show m.x.g.base ≤ 0; omega, by show 0 ≤ m.x.g.base; omega, by show m.x.g.base ≤ m.x.g.last; omega, ?_⟩⟩, rfl, rfl, rfl⟩
  show [] ++ YM (m.x.g.all.drop ((0 : Int) - m.x.g.base).toNat) = w
  have := c1.ct
  unfold zO at this
  rw [if_neg h1] at this
  rw [h0]
  simpa using this
theorem St.crash {n L : Nat} {T k t : Int} {w : List Bs} {G : GS} (h : St n L T k t w G) (hn : n ≤ 9) {i : Nat} (hi : i < n) (hiL : i ≠ L) {j : Nat} (hj : 3 ≤ j) : St n L T k t w ((G.crashS i).roundsS n j) := by
 obtain ⟨p, hp, h⟩ := h
 obtain ⟨m, hm⟩ := h.mem hi
 obtain ⟨c1, c2, c3⟩ := h.ms i m hm
 obtain ⟨d1, d2, d3, _⟩ := c1.start (by omega)
 have eg : G.crashS i = { G with ms := G.ms.set i (m.crashS i n) } := by
  unfold GS.crashS
  rw [hm, h.len]
 have hps : PS n L T k t w p p False (G.crashS i) := by
  rw [eg]
  exact ⟨by show (G.ms.set i _).length = n; rw [List.length_set]; exact h.len, h.lt, Zs h.ms (fun j mj hj hP => ⟨hP.1, hP.2.1, fun e => ⟨(hP.2.2 e).1, fun h => h.elim⟩⟩) ⟨d1, fun e => absurd e hiL, fun _ => ⟨⟨d2, by rw [d3]; omega⟩, fun h => h.elim⟩⟩, h.st⟩
 exact hps.st3 hn hp (by omega) hj
structure Fol1 (T k t : Int) (w : List Bs) (j : Nat) (G : GS) : Prop where
 len : G.ms.length = 1
 st : G.st = []
 ms : ∀ m, G.ms[0]? = some m → BM 1 T k t w 0 m ∧ m.x.role = 0 ∧ m.x.patience = j ∧ (j : Int) < YY 0 T
theorem Qg9 {G : GS} (h : (G.tickS 0).st = []) : G.roundS 1 = G.tickS 0 := by
 have e : G.ticksS 1 = G.tickS 0 := rfl
 show (G.ticksS 1).delsS 200 = _
 rw [e]
 have : ∀ j, (G.tickS 0).delsS j = G.tickS 0 := fun j => by
  induction j with
  | zero => rfl
  | succ j ih =>
   show ((G.tickS 0).delsS j).del1S = _
   rw [ih]
   unfold GS.del1S
   rw [h, if_neg (by simp)]
 exact this 200
theorem Fol1.round {T k t : Int} {w : List Bs} {j : Nat} {G : GS} (h : Fol1 T k t w j G) : Fol1 T k t w (j + 1) (G.roundS 1) ∨ St 1 0 (T + 1) (k + 1) (T + 1) w (G.roundS 1) := by
 obtain ⟨m, hm⟩ : ∃ m, G.ms[0]? = some m := ⟨_, List.getElem?_eq_getElem (by rw [h.len]; exact Nat.one_pos)⟩
 obtain ⟨c1, c2, c3, c4⟩ := h.ms m hm
 obtain ⟨e1, e2⟩ := Qa8 hm
 by_cases hlim : m.x.patience + 1 ≥ YY m.x.id m.x.g.term
 ·right
  obtain ⟨S, hS⟩ : ∃ S : ND, S = ND.wins (ND.stands { m.x with patience := m.x.patience + 1, g := { m.x.g with term := m.x.g.term + 1, vote := m.x.id } }) := ⟨_, rfl⟩
  have hSb : BM 1 (T + 1) k t w 0 { m with x := S } := by
   rw [hS]
   exact ⟨c1.id, c1.n, c1.out, by show m.x.g.term + 1 = T + 1; rw [c1.term], c1.base, c1.last, c1.tl, c1.ct, c1.ap, ⟨c1.A.b, c1.A.c, c1.A.l, c1.A.t⟩⟩
  have e : m.x.tickP = S.entryP [] := by
   unfold ND.tickP
   rw [if_neg (by rw [c2]; decide), if_pos hlim]
   unfold ND.standP
   rw [if_pos c1.n, hS]
   rfl
  have hSl : S.g.last = k := hSb.last
  have hSt : S.g.term = T + 1 := hSb.term
  have e3 := QgI (x := S) (c := []) hSb.n hSb.id hSb.base (by have := hSb.at.2.1; rw [hSl]; exact this)
  rw [hSl, hSt] at e3
  obtain ⟨Y, hY⟩ : ∃ Y : ND, Y = { S with g := S.g.play (.add k [(T + 1, [])]), commit := k + 1 } := ⟨_, rfl⟩
  rw [← hY] at e3
  have hYo : Y.out = [] := by rw [hY]; exact hSb.out
  have e4 : m.tickS = ({ m with x := Y }, []) := by
   unfold MS.tickS
   rw [e, e3, hYo, qn hYo]
  obtain ⟨g1, g2⟩ := hSb.grow [] (y := Y) (by rw [hY]) (by rw [hY]; have := hSb.at.2.1; exact ⟨by show S.commit ≤ k + 1; have : S.commit ≤ k := this; omega, Int.le_refl _⟩) G.out
  have hw : YL w [] = w := by unfold YL; rw [if_pos rfl]
  rw [hw] at g1
  rw [e4] at e1 e2
  have hst : (G.tickS 0).st = [] := by rw [e2, h.st]; rfl
  rw [Qg9 hst]
  refine ⟨0, by omega, by rw [e1, List.length_set]; exact h.len, Nat.one_pos, fun i mi hi => ?_, hst⟩
  have hi0 : i = 0 := by
   have := (List.getElem?_eq_some_iff.1 hi).1
   rw [e1, List.length_set, h.len] at this
   omega
  subst hi0
  rw [e1, List.getElem?_set_self (by rw [h.len]; exact Nat.one_pos)] at hi
  have hi := Option.some.inj hi
  subst hi
  refine ⟨g1, fun _ => ⟨by rw [g2, hY, hS]; rfl, by rw [g2, hY, hS]; show (m.x.id : Int) = _; rw [c1.id], by rw [g2, hY, hS]; rfl, by rw [g2, hY], by rw [g2, hY, hS]; show (List.replicate m.x.n _).length = 1; rw [c1.n]; rfl, fun j hj hj0 => absurd (by omega) hj0⟩, fun e => absurd rfl e⟩
 ·left
  have et : m.x.tickP = { m.x with patience := m.x.patience + 1 } := by
   unfold ND.tickP
   rw [if_neg (by rw [c2]; decide), if_neg hlim]
  obtain ⟨b1, b2⟩ := c1.same (m.x.patience + 1) G.out
  have e3 : m.tickS = ({ m with x := ND.q { m.x with patience := m.x.patience + 1 } }, []) := by
   unfold MS.tickS
   rw [et]
   exact Prod.ext rfl c1.out
  rw [e3] at e1 e2
  have hst : (G.tickS 0).st = [] := by rw [e2, h.st]; rfl
  rw [Qg9 hst]
  refine ⟨by rw [e1, List.length_set]; exact h.len, hst, fun mi hi => ?_⟩
  rw [e1, List.getElem?_set_self (by rw [h.len]; exact Nat.one_pos)] at hi
  have hi := Option.some.inj hi
  subst hi
  rw [c1.id, c1.term, c3] at hlim
  exact ⟨b1, by rw [b2]; exact c2, by rw [b2]; show m.x.patience + 1 = _; omega, by omega⟩
theorem Fol1.rounds {T k t : Int} {w : List Bs} {G : GS} (h : Fol1 T k t w 0 G) : ∀ j : Nat, Fol1 T k t w j (G.roundsS 1 j) ∨ St 1 0 (T + 1) (k + 1) (T + 1) w (G.roundsS 1 j)
 | 0 => .inl h
 | j + 1 => by
  rcases h.rounds j with h1 | h1
  ·exact h1.round
  ·exact .inr (h1.rounds (by decide) 1)
theorem St.crash1 {T k t : Int} {w : List Bs} {G : GS} (h : St 1 0 T k t w G) {j : Nat} (hj : 21 ≤ j) : St 1 0 (T + 1) (k + 1) (T + 1) w ((G.crashS 0).roundsS 1 j) := by
 obtain ⟨p, hp, h⟩ := h
 obtain ⟨m, hm⟩ := h.mem (show 0 < 1 from Nat.one_pos)
 obtain ⟨c1, c2, c3⟩ := h.ms 0 m hm
 obtain ⟨d1, d2, d3, _⟩ := c1.start Nat.one_pos
 have hlm := ji 0 T
 have eg : G.crashS 0 = { G with ms := G.ms.set 0 (m.crashS 0 1) } := by
  unfold GS.crashS
  rw [hm, h.len]
 have hf : Fol1 T k t w 0 (G.crashS 0) := by
  rw [eg]
  refine ⟨by show (G.ms.set 0 _).length = 1; rw [List.length_set]; exact h.len, h.st, fun mi hi => ?_⟩
  have hi : (G.ms.set 0 (m.crashS 0 1))[0]? = some mi := hi
  rw [List.getElem?_set_self (by rw [h.len]; exact Nat.one_pos)] at hi
  have hi := Option.some.inj hi
  subst hi
  exact ⟨d1, d2, by rw [d3]; rfl, by show (0 : Int) < _; omega⟩
 rcases hf.rounds j with h1 | h1
 ·obtain ⟨m1, hm1⟩ : ∃ m, ((G.crashS 0).roundsS 1 j).ms[0]? = some m := ⟨_, List.getElem?_eq_getElem (by rw [h1.len]; exact Nat.one_pos)⟩
  have := (h1.ms m1 hm1).2.2.2
  omega
 ·exact h1
end V
end Go.Proofs.YtenfjpigffjgmaaGreat
set_option linter.unusedSimpArgs false
set_option linter.unusedVariables false
set_option maxRecDepth 100000
namespace Go.Proofs.YtenfjpigffjgmaaGreat
open Go.RowKit
namespace V
set_option maxHeartbeats 4000000
def GS.comps (G : GS) : Nat → GS
 | 0 => G
 | k + 1 => ((G.comps k).compact k).2
def GS.cmd6 (G : GS) (n L : Nat) (c : Bs) : GS := (G.propose L c).2.rounds n 6
def cB (n k : Nat) : Nat := (1 + 100 * (n + 200)) + (15 - k) * (1 + (6 * (n + 200) + n))
def dB (n k : Nat) : Nat := 100 * n + (15 - k) * (1 + 6 * n)
structure CompOK (n L : Nat) (I : Bool → Nat → GS → List Bs → Prop) : Prop where
 l : L < n
 l1 : ((GS.new n).rounds n 100).leads n = ((L : Int), true)
 init : I false 0 ((GS.new n).rounds n 100) []
 at_ : ∀ k G l c, k < 15 → I false k G l → c.length ≤ 100 → ¬ (G.propose L c).1.1 = 0
 lead : ∀ k G l c, k < 15 → I false k G l → c.length ≤ 100 → ((G.cmd6 n L c).leads n).2 = true
 next : ∀ k G l c, k < 15 → I false k G l → c.length ≤ 100 → I true (k + 1) (G.cmd6 n L c) (YL l c)
 skip : ∀ k G l, I true k G l → I false k G l
 comp : ∀ k G l i, k ≤ 15 → I true k G l → i < n → ((G.comps i).compact i).1 = 0
 comps : ∀ k G l, k ≤ 15 → I true k G l → I false k (G.comps n) l
 end1 : ∀ k G l, k ≤ 15 → I false k G l → (((G.crash (n - 1) 0).rounds n 100).leads n).2 = true
 end2 : ∀ k G l m, k ≤ 15 → I false k G l → m ∈ ((G.crash (n - 1) 0).rounds n 100).ms → m.l = l
theorem Bud.comps {n C : Nat} {J : Nat → Nat → GS → Prop} (h : Bud n C J) {G : GS} {d : Nat} : ∀ {k c : Nat}, k ≤ n → J (c + k) d G → J c d (G.comps k)
 | 0, _, _, hj => hj
 | k + 1, c, hk, hj => h.comp _ _ _ _ (by omega) (h.comps (k := k) (c := c + 1) (by omega) (by rw [show c + 1 + k = c + (k + 1) by omega]; exact hj))
theorem QfR {n k : Nat} (h : k < 15) : cB n k = cB n (k + 1) + n + 6 * (n + 200) + 1 := by
 unfold cB
 rw [show 15 - k = (15 - (k + 1)) + 1 by omega, Nat.add_mul]
 omega
theorem QfM {n k : Nat} (h : k < 15) : dB n k = dB n (k + 1) + 6 * n + 1 := by
 unfold dB
 rw [show 15 - k = (15 - (k + 1)) + 1 by omega, Nat.add_mul]
 omega
theorem QbZ {R : Hp} {C3 c3 d3 : Nat} {J3 : Nat → Nat → GS → Prop} (hB3 : Bud 3 C3 J3) (hj3 : J3 (c3 + 10 * (3 + 200) + 1 + 60 * (3 + 200)) (d3 + 10 * 3 + 1 + 60 * 3) (GS.new 3)) (t : Int) (haw : AwOK t)
  {C : Nat} {JJ : Nat → Nat → Nat → GS → Prop} (hBB : ∀ n, Bud n C (JJ n)) (hJJ : ∀ n, 1 ≤ n ∧ n ≤ 3 → JJ n (cB n 0 + 100 * (n + 200)) (dB n 0 + 100 * n) (GS.new n)) {LL : Nat → Nat} {II : Nat → Bool → Nat → GS → List Bs → Prop} (hII : ∀ n, 1 ≤ n ∧ n ≤ 3 → CompOK n (LL n) (II n)) (ni : Int) (va vb : Value) (cmds : List Bs) (now : List Bool) (h0 : zj 1 QdE R [va] cmds) (h1 : zj 1 Qca R [vb] now) :
  Tri Tryz.prog 7 [.int .i64 ni, va, vb] R [] (fun v R' L' => v = .bool true) := by
 obtain ⟨hva, hcl⟩ := QjV h0
 have hvb := Qji h1
 obtain ⟨qa, ca, rfl, ha1, ha2⟩ := hva.shape
 obtain ⟨qb, cb, rfl, hb1, hb2⟩ := hvb.shape
 unfold maxLen at ha2 hb2 hcl
 refine Qn Tryz.func7 rfl Tryz.ntmps7 rfl (fun σ F Q hret hend hpan => ?_)
 try simp only [cA, nA]
 refine Qd fun K1 hK1 => Qc ?_
 refine Ps ?_
 refine Qe (hK1 _ _ _ (Qd fun K2 hK2 => Qd fun K3 hK3 => Qc ?_))
 refine Ra Tryz.call9 (Qh5 hB3 hj3 t haw) ?_
 rintro r R1 L' hR1 ⟨rfl, rfl⟩
 try simp only [cA, nA]
 refine Pa (Yf rfl) ?_
 refine Qe (hK3 _ _ _ (Qt rfl (Qj (hK2 _ _ _ (Qd fun K4 hK4 => Qd fun K5 hK5 => Qc ?_)))))
 refine Pm ?_
 refine Pa (QU rfl rfl) ?_
 refine Pm ?_
 refine QL 27 rfl (fun hg27 => ?_) (fun hg27 => ?_)
 try simp only [dT, dF, nT, nF, tF, fT] at hg27
 refine Pk ?_
 refine Pk ?_
 refine Pa (Qr rfl rfl) ?_
 refine Pm ?_
 refine Pk ?_
 refine Pk ?_
 refine Pk ?_
 refine Pa (Qr rfl rfl) ?_
 refine Qe (hK5 _ _ _ (QC rfl (Qd fun K6 hK6 => Qc ?_)))
 refine Ps ?_
 refine Qe (hK6 _ _ _ (Qi (hret _ _ _ ?_)))
 refine Ea Tryz.results7 (.cons (Qh rfl) .nil) [] (by first | exact hR1 | exact hR4 | exact Hp.le_trans hR4 (Hp.le_trans hR5 hR6) | exact Hp.le_refl _) ?_
 rfl
 try simp only [dT, dF, nT, nF, tF, fT] at hg27
 refine Pb (Qg rfl) ?_
 refine Pb (XI rfl rfl) ?_
 refine Pa (Qq rfl rfl) ?_
 refine Pm ?_
 refine QL 31 rfl (fun hg31 => ?_) (fun hg31 => ?_)
 try simp only [dT, dF, nT, nF, tF, fT] at hg31
 refine Pk ?_
 refine Pk ?_
 refine Pk ?_
 refine Pa (Qr rfl rfl) ?_
 refine Qe (hK5 _ _ _ ?_)
 refine Ql (eL 0 rfl (eL 1 rfl (eL 2 rfl (eL 35 rfl eN)))) ?_
 refine QC rfl (Qd fun K7 hK7 => Qc ?_)
 refine Ps ?_
 refine Qe (hK7 _ _ _ (Qi (hret _ _ _ ?_)))
 refine Ea Tryz.results7 (.cons (Qh rfl) .nil) [] (by first | exact hR1 | exact hR4 | exact Hp.le_trans hR4 (Hp.le_trans hR5 hR6) | exact Hp.le_refl _) ?_
 rfl
 try simp only [dT, dF, nT, nF, tF, fT] at hg31
 refine Pb (Qg rfl) ?_
 first | refine Pb (QB Tryz.underlying42 rfl) ?_ | refine Pb (Qy Tryz.underlying42 rfl fd_) ?_
 refine Pb (XI rfl rfl) ?_
 refine Pa (Qq rfl rfl) ?_
 refine Qe (hK5 _ _ _ ?_)
 refine Qm rfl (fun hc35 => ?_) (fun hc35 => ?_)
 try simp only [dT, dF, nT, nF, tF, fT] at hc35
 refine Qd fun K9 hK9 => Qc ?_
 refine Ps ?_
 refine Qe (hK9 _ _ _ (Qi (hret _ _ _ ?_)))
 refine Ea Tryz.results7 (.cons (Qh rfl) .nil) [] (by first | exact hR1 | exact hR4 | exact Hp.le_trans hR4 (Hp.le_trans hR5 hR6) | exact Hp.le_refl _) ?_
 rfl
 have hlen : cmds.length ≤ 15 := by have hz := hc35; simp only [decide_eq_false_iff_not] at hz; omega
 obtain ⟨n, rfl⟩ : ∃ n : Nat, ni = (n : Int) := ⟨ni.toNat, by (try simp at hg27 hg31); omega⟩
 have hn : 1 ≤ n ∧ n ≤ 3 := by (try simp at hg27 hg31); omega
 obtain ⟨J, hJe⟩ : ∃ J, J = JJ n := ⟨_, rfl⟩
 obtain ⟨I, hIe⟩ : ∃ I, I = II n := ⟨_, rfl⟩
 obtain ⟨L, hLe⟩ : ∃ L, L = LL n := ⟨_, rfl⟩
 have hB := hBB n
 have hj := hJJ n hn
 have hI := hII n hn
 rw [← hJe] at hB hj
 rw [← hIe, ← hLe] at hI
 clear hJe hIe hLe
 refine Qj (hK4 _ _ _ (Qd fun K10 hK10 => Qc ?_))
 refine Pm ?_
 refine Ra Tryz.call19 (Qfz n (by omega)) ?_
 rintro r R2 L' hR2 ⟨w, rfl, hok, rfl⟩
 try simp only [cA, nA]
 refine Pm ?_
 refine Pa (Qo rfl rfl) ?_
 refine Pa (Qo rfl rfl) ?_
 refine Ps ?_
 refine Ps ?_
 refine Qe (hK10 _ _ _ (Qd fun K11 hK11 => Qd fun K12 hK12 => Qc ?_))
 refine Pm ?_
 refine Pa ((Yld.to (u := .bool false) (XW rfl rfl) (by simp))) ?_
 refine Qe (hK12 _ _ _ (Qt rfl (Qj (hK11 _ _ _ (Qd fun K13 hK13 => Qc ?_)))))
 refine Pm ?_
 refine Pm ?_
 refine Ra Tryz.call13 (zl w (GS.new n) n 100 (cB n 0) (dB n 0) C hB (by omega) (by omega) hok hj) ?_
 rintro x R3 L' hR3 ⟨rfl, vn0, css0, vo0, cs0, hok0, rfl⟩
 rw [hI.l1]
 have hL := hI.l
 have hj1 := hB.rounds hj
 have hIi := hI.init
 obtain ⟨G0, hG0⟩ : ∃ G0, G0 = (GS.new n).rounds n 100 := ⟨_, rfl⟩
 rw [← hG0] at hok0 hj1 hIi ⊢
 clear hG0
 try simp only [cA, nA]
 refine Pm ?_
 refine Pa (Qo rfl rfl) ?_
 refine Pa (Qo rfl rfl) ?_
 refine Ps ?_
 refine Ps ?_
 refine Qe (hK13 _ _ _ ?_)
 refine Ql (eL 0 rfl (eL 1 rfl (eL 2 rfl (eL 7 rfl (eL 9 rfl (eL 10 rfl eN)))))) ?_
 refine Qd fun K14 hK14 => Qd fun K15 hK15 => Qc ?_
 refine Pm ?_
 refine Pa (Yf rfl) ?_
 refine Qe (hK15 _ _ _ (Qt rfl (Qj (hK14 _ _ _ (Qd fun K16 hK16 => Qc ?_)))))
 refine Ps ?_
 refine YO (A := lsS (.slice none 0 0) []) (Yk _ _) ?_
 refine Qe (hK16 _ _ _ (Qd fun K17 hK17 => Qd fun K18 hK18 => Qc ?_))
 refine Pm ?_
 first | refine Pa (QB Tryz.underlying42 rfl) ?_ | refine Pa (Qy Tryz.underlying42 rfl fd_) ?_
 refine Pm ?_
 refine Qe (hK18 _ _ _ (Qp ?_))
 refine Ql (E' := (fun (x : Nat × (GV × Value × Hp) × (GS × List Bs)) => [(0, .int .i64 (n : Int)), (2, .slice qb now.length cb), (7, .pointer (some ⟨w.g, 0, none⟩)), (9, .int .i64 (L : Int)), (11, x.2.1.2.1), (51, .slice qa cmds.length ca), (52, .int .i64 (cmds.length : Int)), (53, .int .i64 (x.1 : Int))]) (0, (⟨w.g, w.va, w.n, vn0, css0, vo0, cs0⟩, .slice none 0 0, R3), (G0, []))) (eC rfl (eC rfl (eC rfl (eC rfl (eC rfl (eC rfl (eC rfl (eC rfl eN)))))))) ?_
 refine Xm (M := (fun (x : Nat × (GV × Value × Hp) × (GS × List Bs)) => lsS x.2.1.2.1 x.2.2.2 :: (grL x.2.1.1 x.2.2.1 ++ F)) (0, (⟨w.g, w.va, w.n, vn0, css0, vo0, cs0⟩, .slice none 0 0, R3), (G0, []))) sb_ ?_
 refine Xa (fun (x : Nat × (GV × Value × Hp) × (GS × List Bs)) => [(0, .int .i64 (n : Int)), (2, .slice qb now.length cb), (7, .pointer (some ⟨w.g, 0, none⟩)), (9, .int .i64 (L : Int)), (11, x.2.1.2.1), (51, .slice qa cmds.length ca), (52, .int .i64 (cmds.length : Int)), (53, .int .i64 (x.1 : Int))]) (fun (x : Nat × (GV × Value × Hp) × (GS × List Bs)) => x.2.1.2.2) (fun (x : Nat × (GV × Value × Hp) × (GS × List Bs)) => lsS x.2.1.2.1 x.2.2.2 :: (grL x.2.1.1 x.2.2.1 ++ F)) (fun (x : Nat × (GV × Value × Hp) × (GS × List Bs)) => x.1 ≤ cmds.length ∧ (∃ vn css vo cs, x.2.1.1 = ⟨w.g, w.va, w.n, vn, css, vo, cs⟩) ∧ GOk x.2.1.2.2 x.2.1.1 x.2.2.1 ∧ R.le x.2.1.2.2 ∧ J (cB n x.1) (dB n x.1) x.2.2.1 ∧ I false x.1 x.2.2.1 x.2.2.2 ∧ x.2.1.2.1.oneCell' = true ∧ x.2.2.2.length ≤ x.1) (fun (x : Nat × (GV × Value × Hp) × (GS × List Bs)) => cmds.length - x.1) (0, (⟨w.g, w.va, w.n, vn0, css0, vo0, cs0⟩, .slice none 0 0, R3), (G0, [])) (⟨by simp, ⟨_, _, _, _, rfl⟩, hok0, Hp.le_trans hR1 (Hp.le_trans hR2 hR3), hj1, hIi, rfl, by simp⟩) ?_
 rintro ⟨i, ⟨w1, vw, R4⟩, ⟨G, wl⟩⟩ ⟨hi, hg1, hok1, hR4, hjG, hIG, hvw, hwl⟩
 try dsimp only
 dsimp only at hi hg1 hok1 hR4 hjG hIG hvw hwl
 obtain ⟨vn1, css1, vo1, cs1, rfl⟩ := hg1
 refine Qd fun K19 hK19 => Qc ?_
 refine Pa (QU rfl rfl) ?_
 refine Qe (hK19 _ _ _ (Qd fun K20 hK20 => ?_))
 refine Qm rfl (fun hc54 => ?_) (fun hc54 => ?_)
 try simp only [dT, dF, nT, nF, tF, fT] at hc54
 refine Qj (hK20 _ _ _ (Qd fun K22 hK22 => Qp (Qd fun K23 hK23 => ?_)))
 have hi2 : i < cmds.length := by have hz := hc54; omega
 obtain ⟨c, hc⟩ : ∃ x, cmds[i]? = some x := ⟨_, List.getElem?_eq_getElem hi2⟩
 obtain ⟨bb, off, cap', cs', hee, rfl, _, hcell⟩ := (hva.mono hR4).at hc
 obtain ⟨rfl, rfl⟩ : qa = some ⟨bb, off, none⟩ ∧ ca = cap' := by cases hee; exact ⟨rfl, rfl⟩
 have hcb := hcl c (List.mem_of_getElem? hc)
 refine Qc ?_
 refine Pm ?_
 first | refine Pa (Qv Tryz.underlying42 Tryz.sizeOf9 rfl rfl om_) ?_ | refine Pa (Qs Tryz.underlying42 Tryz.sizeOf9 rfl rfl fd_ om_) ?_
 refine Pa ((Xr o9 rfl (hcell 0 (.string (str c)) rfl))) ?_
 refine Ps ?_
 refine Ps ?_
 refine Qe (hK23 _ _ _ (Qd fun K24 hK24 => Qd fun K25 hK25 => Qc ?_))
 refine Pm ?_
 refine Pa (Yw Tryz.underlying9 rfl) ?_
 refine Pa (XI rfl rfl) ?_
 refine Qe (hK25 _ _ _ ?_)
 refine Qm rfl (fun hc60 => ?_) (fun hc60 => ?_)
 try simp only [dT, dF, nT, nF, tF, fT] at hc60
 refine Qd fun K27 hK27 => Qc ?_
 refine Ps ?_
 refine Qe (hK27 _ _ _ (Qi (hret _ _ _ ?_)))
 refine Ea Tryz.results7 (.cons (Qh rfl) .nil) [] (by first | exact hR1 | exact hR4 | exact Hp.le_trans hR4 (Hp.le_trans hR5 hR6) | exact Hp.le_refl _) ?_
 rfl
 have hc100 : c.length ≤ 100 := by have hz := hc60; simp only [decide_eq_false_iff_not] at hz; omega
 have hi15 : i < 15 := by omega
 have hat := hI.at_ i G wl c hi15 hIG hc100
 have hld := hI.lead i G wl c hi15 hIG hc100
 have hnx := hI.next i G wl c hi15 hIG hc100
 rw [QfR hi15, QfM hi15] at hjG
 have hj2 := hB.prop _ _ _ L c hL hc100 hjG
 have hj4 := hB.rounds (k := 6) (c := cB n (i + 1) + n) (d := dB n (i + 1)) hj2
 obtain ⟨P, hP⟩ : ∃ P, P = G.propose L c := ⟨_, rfl⟩
 have h6 : G.cmd6 n L c = P.2.rounds n 6 := by rw [hP]; rfl
 rw [h6] at hld hnx
 rw [← hP] at hat hj2 hj4
 obtain ⟨P2, hP2⟩ : ∃ P2, P2 = P.2.rounds n 6 := ⟨_, rfl⟩
 rw [← hP2] at hld hnx hj4
 have hawl : (YL wl c).length ≤ wl.length + 1 := by unfold YL; split <;> simp
 obtain ⟨W, hW⟩ : ∃ W, W = YL wl c := ⟨_, rfl⟩
 rw [← hW] at hnx hawl
 refine Qj (hK24 _ _ _ (Qd fun K28 hK28 => Qd fun K29 hK29 => Qc ?_))
 refine Pm ?_
 refine Pm ?_
 refine Pm ?_
 refine Ra Tryz.call16 (Qa2 ⟨w.g, w.va, w.n, vn1, css1, vo1, cs1⟩ G L c hc100 hok1 (by rw [hB.ln _ _ _ hjG]; exact hL) (hB.gw _ _ _ hjG) (by rw [← hP]; exact hB.gw _ _ _ hj2)) ?_
 rintro x R5 L' hR5 ⟨rfl, vn3, css3, vo3, cs3, hok3, rfl⟩
 rw [← hP] at hok3 ⊢
 clear hP h6
 try simp only [cA, nA]
 refine Pm ?_
 refine Pa (Qo rfl rfl) ?_
 refine Pa (Qo rfl rfl) ?_
 refine Ps ?_
 refine Ps ?_
 refine Qe (hK29 _ _ _ ?_)
 refine Ql (eL 0 rfl (eL 2 rfl (eL 7 rfl (eL 9 rfl (eL 11 rfl (eL 12 rfl (eL 13 rfl (eL 14 rfl (eL 51 rfl (eL 52 rfl (eL 53 rfl eN))))))))))) ?_
 refine Qd fun K30 hK30 => Qc ?_
 refine Pm ?_
 refine Pa ((Yld.to (u := .bool false) (QO rfl rfl) (by rw [decide_eq_false hat]))) ?_
 refine Qe (hK30 _ _ _ (Qt rfl (Qj (hK28 _ _ _ (Qd fun K31 hK31 => ?_)))))
 have hJ22 : ∀ (z : Value), z.oneCell' = true → EJ ⟨Tryz.prog, 135, σ⟩ K31 [(0, .int .i64 (n : Int)), (2, .slice qb now.length cb), (7, .pointer (some ⟨w.g, 0, none⟩)), (9, .int .i64 (L : Int)), (11, z), (12, .int .i64 (i : Int)), (51, .slice (some ⟨bb, off, none⟩) cmds.length ca), (52, .int .i64 (cmds.length : Int)), (53, .int .i64 (i : Int))] R5 (lsS z W :: (grL ⟨w.g, w.va, w.n, vn3, css3, vo3, cs3⟩ P.2 ++ F)) := by
  rintro vw2 hvw2
  try dsimp only
  refine hK31 _ _ _ (Qd fun K32 hK32 => Qd fun K33 hK33 => Qc ?_)
  refine Pm ?_
  refine Pm ?_
  refine Ra Tryz.call13 (zl ⟨w.g, w.va, w.n, vn3, css3, vo3, cs3⟩ P.2 n 6 (cB n (i + 1) + n) (dB n (i + 1)) C hB (by omega) (by omega) hok3 hj2) ?_
  rintro x R6 L' hR6 ⟨rfl, vn4, css4, vo4, cs4, hok4, rfl⟩
  rw [← hP2] at hok4 ⊢
  clear hP2
  try simp only [cA, nA]
  refine Pm ?_
  refine Pa (Qo rfl rfl) ?_
  refine Pa (Qo rfl rfl) ?_
  refine Ps ?_
  refine Ps ?_
  refine Qe (hK33 _ _ _ (Qd fun K34 hK34 => Qc ?_))
  refine Pa ((Yld.to (u := .bool true) (Qg rfl) (by rw [hld]; rfl))) ?_
  refine Pa (Yf rfl) ?_
  refine Qe (hK34 _ _ _ (Qt rfl (Qj (hK32 _ _ _ (Qd fun K35 hK35 => Qc ?_)))))
  refine Pm ?_
  refine Pm ?_
  first | refine Pa (QB Tryz.underlying63 rfl) ?_ | refine Pa (Qy Tryz.underlying63 rfl fd_) ?_
  refine Pa (QU rfl rfl) ?_
  refine Pm ?_
  refine QL 88 rfl (fun hg88 => ?_) (fun hg88 => ?_)
  try simp only [dT, dF, nT, nF, tF, fT] at hg88
  have hi3 : i < now.length := by have hz := hg88; omega
  obtain ⟨f, hf⟩ : ∃ x, now[i]? = some x := ⟨_, List.getElem?_eq_getElem hi3⟩
  obtain ⟨bb2, off2, cap2, cs2', hee2, rfl, _, hcell2⟩ := (hvb.mono (Hp.le_trans hR4 (Hp.le_trans hR5 hR6))).at hf
  obtain ⟨rfl, rfl⟩ : qb = some ⟨bb2, off2, none⟩ ∧ cb = cap2 := by cases hee2; exact ⟨rfl, rfl⟩
  refine Pb (Qg rfl) ?_
  refine Pb (Qg rfl) ?_
  first | refine Pb (Qv Tryz.underlying63 Tryz.sizeOf4 rfl rfl om_) ?_ | refine Pb (Qs Tryz.underlying63 Tryz.sizeOf4 rfl rfl fd_ om_) ?_
  refine Pb ((Xr o4 rfl (hcell2 0 (.bool f) rfl))) ?_
  refine Pa (Qr rfl rfl) ?_
  refine Qe (hK35 _ _ _ ?_)
  refine Ql (eL 0 rfl (eL 2 rfl (eL 7 rfl (eL 9 rfl (eL 11 rfl (eL 51 rfl (eL 52 rfl (eL 53 rfl (eL 93 rfl eN))))))))) ?_
  refine Qm rfl (fun hc93 => ?_) (fun hc93 => ?_)
  try simp only [dT, dF, nT, nF, tF, fT] at hc93
  refine Qd fun K37 hK37 => Qc ?_
  refine Pm ?_
  refine Pm ?_
  refine Qe (hK37 _ _ _ (Qp ?_))
  refine Ql (E' := (fun (y : Nat × GV × Hp) => [(0, .int .i64 (n : Int)), (2, .slice (some ⟨bb2, off2, none⟩) now.length cb), (7, .pointer (some ⟨w.g, 0, none⟩)), (9, .int .i64 (L : Int)), (11, vw2), (51, .slice (some ⟨bb, off, none⟩) cmds.length ca), (52, .int .i64 (cmds.length : Int)), (53, .int .i64 (i : Int)), (94, .int .i64 (n : Int)), (95, .int .i64 (y.1 : Int))]) (0, ⟨w.g, w.va, w.n, vn4, css4, vo4, cs4⟩, R6)) (eC rfl (eC rfl (eC rfl (eC rfl (eC rfl (eC rfl (eC rfl (eC rfl (eC rfl (eC rfl eN)))))))))) ?_
  refine Xm (M := (fun (y : Nat × GV × Hp) => lsS vw2 W :: (grL y.2.1 (P2.comps y.1) ++ F)) (0, ⟨w.g, w.va, w.n, vn4, css4, vo4, cs4⟩, R6)) sb_ ?_
  refine Xa (fun (y : Nat × GV × Hp) => [(0, .int .i64 (n : Int)), (2, .slice (some ⟨bb2, off2, none⟩) now.length cb), (7, .pointer (some ⟨w.g, 0, none⟩)), (9, .int .i64 (L : Int)), (11, vw2), (51, .slice (some ⟨bb, off, none⟩) cmds.length ca), (52, .int .i64 (cmds.length : Int)), (53, .int .i64 (i : Int)), (94, .int .i64 (n : Int)), (95, .int .i64 (y.1 : Int))]) (fun (y : Nat × GV × Hp) => y.2.2) (fun (y : Nat × GV × Hp) => lsS vw2 W :: (grL y.2.1 (P2.comps y.1) ++ F)) (fun (y : Nat × GV × Hp) => y.1 ≤ n ∧ (∃ vn css vo cs, y.2.1 = ⟨w.g, w.va, w.n, vn, css, vo, cs⟩) ∧ GOk y.2.2 y.2.1 (P2.comps y.1) ∧ R6.le y.2.2) (fun (y : Nat × GV × Hp) => n - y.1) (0, ⟨w.g, w.va, w.n, vn4, css4, vo4, cs4⟩, R6) (⟨by simp, ⟨_, _, _, _, rfl⟩, hok4, Hp.le_refl _⟩) ?_
  rintro ⟨j, w2, R7⟩ ⟨hj5, hg2, hok5, hR7⟩
  try dsimp only
  dsimp only at hj5 hg2 hok5 hR7
  obtain ⟨vn5, css5, vo5, cs5, rfl⟩ := hg2
  refine Qd fun K38 hK38 => Qc ?_
  refine Pa (QU rfl rfl) ?_
  refine Qe (hK38 _ _ _ (Qd fun K39 hK39 => ?_))
  refine Qm rfl (fun hc96 => ?_) (fun hc96 => ?_)
  try simp only [dT, dF, nT, nF, tF, fT] at hc96
  refine Qj (hK39 _ _ _ (Qd fun K41 hK41 => Qp (Qd fun K42 hK42 => ?_)))
  have hj6 : j < n := by have hz := hc96; omega
  have hjc := hB.comps (c := cB n (i + 1) + (n - j)) (k := j) (by omega) (by rw [show cB n (i + 1) + (n - j) + j = cB n (i + 1) + n by omega]; exact hj4)
  have hcz := hI.comp (i + 1) P2 W j (by omega) hnx hj6
  refine Qc ?_
  refine Pm ?_
  refine Ps ?_
  refine Qe (hK42 _ _ _ (Qd fun K43 hK43 => Qc ?_))
  refine Pm ?_
  refine Pm ?_
  refine Ra Tryz.call32 (Qe2 ⟨w.g, w.va, w.n, vn5, css5, vo5, cs5⟩ (P2.comps j) j hok5 (by rw [hB.ln _ _ _ hjc]; exact hj6) (hB.gw _ _ _ hjc)) ?_
  rintro x R8 L' hR8 ⟨rfl, vn6, css6, vo6, cs6, hok6, rfl⟩
  rw [show ((P2.comps j).compact j).2 = P2.comps (j + 1) from rfl] at hok6 ⊢
  rw [hcz]
  try simp only [cA, nA]
  refine Pa ((Yld.to (u := .bool false) (XW rfl rfl) (by simp))) ?_
  refine Qe (hK43 _ _ _ (Qt rfl (Qj (hK41 _ _ _ (Qc ?_)))))
  first | refine Pa (Qz rfl rfl om_) ?_ | refine Pa (QS rfl rfl) ?_
  refine Pm ?_
  refine Qe ?_
  refine Xs (q' := QY _ _ _ _ _ _ _) rfl ?_
  refine QI ((j + 1, ⟨w.g, w.va, w.n, vn6, css6, vo6, cs6⟩, R8)) (⟨by dsimp only; omega, ⟨_, _, _, _, rfl⟩, hok6, Hp.le_trans hR7 hR8⟩) (by dsimp only; omega) (eC rfl (eC rfl (eC rfl (eC rfl (eC rfl (eC rfl (eC rfl (eC rfl (eC rfl (eC rfl eN)))))))))) rfl sb_
  try simp only [dT, dF, nT, nF, tF, fT] at hc96
  refine QQ (hK22 _ _ _ (Qc ?_))
  first | refine Pa (Qz rfl rfl om_) ?_ | refine Pa (QS rfl rfl) ?_
  refine Pm ?_
  refine Qe ?_
  refine Xs (q' := QY _ _ _ _ _ _ _) rfl ?_
  refine QI ((i + 1, (⟨w.g, w.va, w.n, vn5, css5, vo5, cs5⟩, vw2, R7), (P2.comps j, W))) (⟨by dsimp only; omega, ⟨_, _, _, _, rfl⟩, hok5, Hp.le_trans hR4 (Hp.le_trans hR5 (Hp.le_trans hR6 hR7)), by dsimp only; rw [show j = n by have hz := hc96; omega]; exact hB.comps (Nat.le_refl n) hj4, by dsimp only; rw [show j = n by have hz := hc96; omega]; exact hI.comps _ _ _ (by omega) hnx, hvw2, by dsimp only; omega⟩) (by dsimp only; omega) (eC rfl (eC rfl (eC rfl (eC rfl (eC rfl (eC rfl (eC rfl (eC rfl eN)))))))) rfl sb_
  try simp only [dT, dF, nT, nF, tF, fT] at hc93
  refine Qj (hK22 _ _ _ (Qc ?_))
  first | refine Pa (Qz rfl rfl om_) ?_ | refine Pa (QS rfl rfl) ?_
  refine Pm ?_
  refine Qe ?_
  refine Xs (q' := QY _ _ _ _ _ _ _) rfl ?_
  refine QI ((i + 1, (⟨w.g, w.va, w.n, vn4, css4, vo4, cs4⟩, vw2, R6), (P2, W))) (⟨by dsimp only; omega, ⟨_, _, _, _, rfl⟩, hok4, Hp.le_trans hR4 (Hp.le_trans hR5 hR6), by dsimp only; exact hB.leq (by omega) (by omega) hj4, hI.skip _ _ _ hnx, hvw2, by dsimp only; omega⟩) (by dsimp only; omega) (eC rfl (eC rfl (eC rfl (eC rfl (eC rfl (eC rfl (eC rfl (eC rfl eN)))))))) rfl sb_
  try simp only [dT, dF, nT, nF, tF, fT] at hg88
  refine Pk ?_
  refine Pk ?_
  refine Pk ?_
  refine Pk ?_
  refine Pa (Qq rfl rfl) ?_
  refine Qe (hK35 _ _ _ ?_)
  refine Ql (eL 0 rfl (eL 2 rfl (eL 7 rfl (eL 9 rfl (eL 11 rfl (eL 51 rfl (eL 52 rfl (eL 53 rfl (eL 93 rfl eN))))))))) ?_
  refine Qt rfl (Qj (hK22 _ _ _ (Qc ?_)))
  first | refine Pa (Qz rfl rfl om_) ?_ | refine Pa (QS rfl rfl) ?_
  refine Pm ?_
  refine Qe ?_
  refine Xs (q' := QY _ _ _ _ _ _ _) rfl ?_
  refine QI ((i + 1, (⟨w.g, w.va, w.n, vn4, css4, vo4, cs4⟩, vw2, R6), (P2, W))) (⟨by dsimp only; omega, ⟨_, _, _, _, rfl⟩, hok4, Hp.le_trans hR4 (Hp.le_trans hR5 hR6), by dsimp only; exact hB.leq (by omega) (by omega) hj4, hI.skip _ _ _ hnx, hvw2, by dsimp only; omega⟩) (by dsimp only; omega) (eC rfl (eC rfl (eC rfl (eC rfl (eC rfl (eC rfl (eC rfl (eC rfl eN)))))))) rfl sb_
 refine Qd fun K44 hK44 => Qc ?_
 refine Pm ?_
 refine Pa (jO rfl rfl) ?_
 refine Qe (hK44 _ _ _ ?_)
 refine Qm rfl (fun hc71 => ?_) (fun hc71 => ?_)
 have hcn : ¬ c = [] := by simpa using hc71
 have hwn : W = wl ++ [c] := by rw [hW]; unfold YL; rw [if_neg hcn]
 refine Qc ?_
 refine Pm ?_
 refine Pm ?_
 refine QA (sz := 1) (wn0 rfl) rfl Tryz.underlying42 Tryz.sizeOf9 Tryz.zeroValue9 rfl rfl rfl (by decide) (by decide) (fun bz => ?_)
 refine XE (sz := 1) (by_ := 16) ⟨Tryz.underlying42, _, _, rfl, rfl, rfl, rfl, rfl⟩ (wn0 rfl) rfl rfl rfl fd_ (YP (xs := [.string (str c)]) Tryz.underlying42 fd_ (by (first | (simp [Value.oneCell']; done) | (intro u hu; simp only [List.mem_cons, List.not_mem_nil, or_false] at hu; rcases hu with rfl | rfl | rfl | rfl <;> first | rfl | assumption)))) rfl om_ (by simp only [maxLen]; omega) (fun v75 ho75 hh75 => ?_)
 rw [QbB, show wl.length + 1 = (wl ++ [c]).length by simp]
 refine Xt (A := lsS v75 (wl ++ [c])) (B := lsS v75 W) fd_ (fun h hh => hwn ▸ hh) ?_
 refine Ps ?_
 refine Qe ?_
 refine QM hJ22 (v75) (by assumption) (eC rfl (eC rfl (eC rfl (eC rfl (eC rfl (eC rfl (eC rfl (eC rfl (eC rfl eN))))))))) rfl sb_
 have hcn : c = [] := by simpa using hc71
 have hwn : W = wl := by rw [hW]; unfold YL; rw [if_pos hcn]
 rw [← hwn]
 refine Qj ?_
 refine QM hJ22 (vw) (hvw) (eC rfl (eC rfl (eC rfl (eC rfl (eC rfl (eC rfl (eC rfl (eC rfl (eC rfl eN))))))))) rfl sb_
 try simp only [dT, dF, nT, nF, tF, fT] at hc54
 refine QQ (hK17 _ _ _ (Qd fun K46 hK46 => ?_))
 have hnn : ((n : Int) - 1) = ((n - 1 : Nat) : Int) := by omega
 have hjG1 : J (cB n 15) (dB n 15) G := hB.leq (by unfold cB; omega) (by unfold dB; omega) hjG
 have hjG2 : J (100 * (n + 200) + 1) (100 * n) G := hB.leq (by unfold cB; omega) (by unfold dB; omega) hjG1
 have he1 := hI.end1 i G wl (by omega) hIG
 have he2 := hI.end2 i G wl
 obtain ⟨Q, hQ⟩ : ∃ Q, Q = (G.crash (n - 1) 0).rounds n 100 := ⟨_, rfl⟩
 rw [← hQ] at he1 he2
 refine Qc ?_
 refine Pm ?_
 refine Pm ?_
 refine Pa ((Yld.to (u := .int .i64 ((n - 1 : Nat) : Int)) (YH rfl rfl (by omega)) (by rw [hnn]))) ?_
 refine Ra Tryz.call12 (QhK ⟨w.g, w.va, w.n, vn1, css1, vo1, cs1⟩ G (n - 1) 0 hok1 (by rw [hB.ln _ _ _ hjG]; omega) (hB.gw _ _ _ hjG) (fun m hm => hB.opens (100 * (n + 200)) (100 * n) G (n - 1) m 0 hjG2 hm)) ?_
 rintro x R5 L' hR5 ⟨vn2, css2, vo2, cs2, hok2, rfl⟩
 have hjc := hB.crash (100 * (n + 200)) (100 * n) G (n - 1) 0 (by omega) hjG2
 have hjr := hB.rounds (k := 100) (c := 0) (d := 0) (by rw [Nat.zero_add, Nat.zero_add]; exact hjc)
 try simp only [cA, nA]
 refine Qe (hK46 _ _ _ (Qd fun K47 hK47 => Qd fun K48 hK48 => Qc ?_))
 refine Pm ?_
 refine Pm ?_
 refine Ra Tryz.call13 (zl ⟨w.g, w.va, w.n, vn2, css2, vo2, cs2⟩ (G.crash (n - 1) 0) n 100 0 0 C hB (by omega) (by omega) hok2 (by rw [Nat.zero_add, Nat.zero_add]; exact hjc)) ?_
 rintro x R6 L' hR6 ⟨rfl, vn3, css3, vo3, cs3, hok3, rfl⟩
 rw [← hQ] at hok3 hjr ⊢
 clear hQ
 try simp only [cA, nA]
 refine Pm ?_
 refine Pa (Qo rfl rfl) ?_
 refine Pa (Qo rfl rfl) ?_
 refine Ps ?_
 refine Ps ?_
 refine Qe (hK48 _ _ _ (Qd fun K49 hK49 => Qc ?_))
 refine Pa ((Yld.to (u := .bool true) (Qg rfl) (by rw [he1]; rfl))) ?_
 refine Pa (Yf rfl) ?_
 refine Qe (hK49 _ _ _ (Qt rfl (Qj (hK47 _ _ _ ?_))))
 refine Ql (eL 0 rfl (eL 7 rfl (eL 11 rfl eN))) ?_
 refine Qd fun K50 hK50 => Qd fun K51 hK51 => ?_
 refine ZG (A := lsS vw wl) fd_ Zu (fun hsb => ?_)
 obtain ⟨q1, cap1, rfl, _, _, _⟩ := hsb
 refine Qc ?_
 refine Pm ?_
 refine Pm ?_
 refine Qe (hK51 _ _ _ (Qp ?_))
 refine Ql (E' := (fun (y : Nat) => [(7, .pointer (some ⟨w.g, 0, none⟩)), (11, .slice q1 wl.length cap1), (116, .int .i64 (n : Int)), (117, .int .i64 (y : Int))]) 0) (eC rfl (eC rfl (eC rfl (eC rfl eN)))) ?_
 refine Xm (M := (fun (y : Nat) => lsS (.slice q1 wl.length cap1) wl :: (grL ⟨w.g, w.va, w.n, vn3, css3, vo3, cs3⟩ Q ++ F)) 0) sb_ ?_
 refine Xa (fun (y : Nat) => [(7, .pointer (some ⟨w.g, 0, none⟩)), (11, .slice q1 wl.length cap1), (116, .int .i64 (n : Int)), (117, .int .i64 (y : Int))]) (fun (y : Nat) => R6) (fun (y : Nat) => lsS (.slice q1 wl.length cap1) wl :: (grL ⟨w.g, w.va, w.n, vn3, css3, vo3, cs3⟩ Q ++ F)) (fun (y : Nat) => y ≤ n) (fun (y : Nat) => n - y) 0 (by simp) ?_
 rintro j hj5
 try dsimp only
 refine Qd fun K52 hK52 => Qc ?_
 refine Pa (QU rfl rfl) ?_
 refine Qe (hK52 _ _ _ (Qd fun K53 hK53 => ?_))
 refine Qm rfl (fun hc118 => ?_) (fun hc118 => ?_)
 try simp only [dT, dF, nT, nF, tF, fT] at hc118
 refine Qj (hK53 _ _ _ (Qd fun K55 hK55 => Qp (Qd fun K56 hK56 => ?_)))
 have hj6 : j < n := by have hz := hc118; omega
 obtain ⟨m0, hm0⟩ : ∃ m, Q.ms[j]? = some m := ⟨_, List.getElem?_eq_getElem (by rw [hB.ln _ _ _ hjr]; exact hj6)⟩
 have hml := he2 m0 (by omega) hIG (List.mem_of_getElem? hm0)
 obtain ⟨c0, hc0, _, _⟩ := hok3.at hm0
 refine ZG (A := grA ⟨w.g, w.va, w.n, vn3, css3, vo3, cs3⟩ Q) fd_ (Qdv hc0 hm0) (fun hq => ?_)
 obtain ⟨q0, cap0, hq0⟩ := hq
 refine Qc ?_
 refine Pm ?_
 refine Ps ?_
 refine Qe (hK56 _ _ _ (Qd fun K57 hK57 => Qc ?_))
 refine Pm ?_
 refine Pm ?_
 refine Pa (Ca Tryz.call17 ((QhP (w := ⟨w.g, w.va, w.n, vn3, css3, vo3, cs3⟩) (i := j) hc0 hm0).eq3 hq0)) ?_
 refine Ps ?_
 refine Qe (hK57 _ _ _ (Qd fun K58 hK58 => Qc ?_))
 refine Pm ?_
 first | refine Pa (QB Tryz.underlying42 rfl) ?_ | refine Pa (Qy Tryz.underlying42 rfl fd_) ?_
 refine Pm ?_
 first | refine Pa (QB Tryz.underlying42 rfl) ?_ | refine Pa (Qy Tryz.underlying42 rfl fd_) ?_
 refine Pa ((Yld.to (u := .bool false) (XW rfl rfl) (by rw [hml]; simp))) ?_
 refine Pm ?_
 refine Pb (Qg rfl) ?_
 refine Pb (Qg rfl) ?_
 refine Pb (Ca Tryz.call27 ((hq0 ▸ (QhQ (w := ⟨w.g, w.va, w.n, vn3, css3, vo3, cs3⟩) (i := j) hc0 hm0 _ wl)).eq3 (v' := .bool true) (by rw [hml, Qe8]))) ?_
 refine Pb (Yf rfl) ?_
 refine Pa (Qq rfl rfl) ?_
 refine Qe (hK58 _ _ _ ?_)
 refine Ql (eL 7 rfl (eL 11 rfl (eL 116 rfl (eL 117 rfl (eL 133 rfl eN))))) ?_
 refine Qt rfl (Qj (hK55 _ _ _ (Qc ?_)))
 first | refine Pa (Qz rfl rfl om_) ?_ | refine Pa (QS rfl rfl) ?_
 refine Pm ?_
 refine Qe ?_
 refine Xs (q' := QY _ _ _ _ _ _ _) rfl ?_
 refine QI (j + 1) (by omega) (by omega) (eC rfl (eC rfl (eC rfl (eC rfl eN)))) rfl sb_
 try simp only [dT, dF, nT, nF, tF, fT] at hc118
 refine QQ (hK50 _ _ _ ?_)
 refine Ql eN ?_
 refine Qd fun K59 hK59 => Qc ?_
 refine Ps ?_
 refine Qe (hK59 _ _ _ (Qi (hret _ _ _ ?_)))
 refine Ea Tryz.results7 (.cons (Qh rfl) .nil) [] (by first | exact hR1 | exact hR4 | exact Hp.le_trans hR4 (Hp.le_trans hR5 hR6) | exact Hp.le_refl _) ?_
 rfl
set_option maxRecDepth 100000
def Qbu (a : Int) : List Int → List Int
 | [] => [a]
 | b :: l => if a ≤ b then a :: b :: l else b :: Qbu a l
def QbK (l : List Int) : List Int := l.foldr Qbu []
theorem Qak (a : Int) : ∀ l : List Int, (Qbu a l).Perm (a :: l)
 | [] => .refl _
 | b :: l => by
  unfold Qbu
  split
  ·exact .refl _
  ·exact ((Qak a l).cons b).trans (.swap a b l)
theorem Qc3 (a : Int) : ∀ {l : List Int}, l.Pairwise (fun a b => decide (a ≤ b) = true) → (Qbu a l).Pairwise (fun a b => decide (a ≤ b) = true)
 | [], _ => by simp [Qbu]
 | b :: l, h => by
  unfold Qbu
  rw [List.pairwise_cons] at h
  split
  ·rename_i h1
   refine List.pairwise_cons.2 ⟨fun c hc => ?_, List.pairwise_cons.2 h⟩
   rcases List.mem_cons.1 hc with hc | hc
   ·subst hc; simpa using h1
   ·have := h.1 c hc; simp at *; omega
  ·refine List.pairwise_cons.2 ⟨fun c hc => ?_, Qc3 a h.2⟩
   rcases List.mem_cons.1 ((Qak a l).mem_iff.1 hc) with hc | hc
   ·subst hc; simp; omega
   ·exact h.1 c hc
theorem Qij (l : List Int) : l.mergeSort (fun a b => decide (a ≤ b)) = QbK l := by
 have h1 := List.mergeSort_perm l (fun a b => decide (a ≤ b))
 have h2 := List.pairwise_mergeSort (le := fun (a b : Int) => decide (a ≤ b)) (fun a b c h1 h2 => by simp at *; omega) (fun a b => by simp; omega) l
 have h3 : (QbK l).Perm l ∧ (QbK l).Pairwise (fun a b => decide (a ≤ b) = true) := by
  unfold QbK
  clear h1 h2
  induction l with
  | nil => exact ⟨.refl _, .nil⟩
  | cons a l ih => exact ⟨(Qak a _).trans (ih.1.cons a), Qc3 a ih.2⟩
 exact List.Perm.eq_of_pairwise (le := fun (a b : Int) => decide (a ≤ b) = true) (fun a b _ _ h1 h2 => by simp at *; omega) h2 h3.2 (h1.trans h3.1.symm)
def Qgv (x : ND) : Int := (QbK x.reach).getD ((x.n - 1) / 2) 0
def Qb8 (x : ND) : ND := if Qgv x > x.commit ∧ x.tAt (Qgv x) = x.g.term then { x with commit := Qgv x } else x
theorem QfO : ND.count = Qb8 := by funext x; unfold ND.count Qb8 ND.mid Qgv; rw [Qij]
def yf (s : NS) (cmd : Bs) : Bool × NS := Xb (QR s (s.1.g.addD s.2 s.1.g.last [(s.1.g.term, cmd)])) fun s => (true, ((Qb8 s.1).feedAll, s.2))
theorem QfH : QV = yf := by funext s c; unfold QV yf; rw [QfO]
def QfW (s : NS) : Bool × NS := yf (s.1.wins, s.2) []
theorem Qjp : ZC = QfW := by funext s; unfold ZC QfW; rw [QfH]
def QdI (s : NS) : Bool × NS := Xb (QR s (s.1.g.setTermD s.2 (s.1.g.term + 1) s.1.id)) fun s =>
 if s.1.n = 1 then QfW (s.1.stands, s.2) else (true, (s.1.stands.askAll, s.2))
theorem Qj1 : YI = QdI := by funext s; unfold YI QdI; rw [Qjp]
def Qf3 (s : NS) : Bool × NS :=
 if s.1.role = 2 then if s.1.patience + 1 ≥ 3 then (true, ({ s.1 with patience := 0 }.feedAll, s.2)) else (true, ({ s.1 with patience := s.1.patience + 1 }, s.2))
 else if s.1.patience + 1 ≥ YY s.1.id s.1.g.term then QdI ({ s.1 with patience := s.1.patience + 1 }, s.2) else (true, ({ s.1 with patience := s.1.patience + 1 }, s.2))
theorem Qlj : YB = Qf3 := by funext s; unfold YB Qf3; rw [Qj1]
def Qdu (s : NS) (m : Msg) : Bool × NS :=
 if ¬ s.1.role = 1 ∨ ¬ m.term = s.1.g.term ∨ m.ok = false then (true, s)
 else if 2 * ((Xc s.1.votes m.frm).length : Int) > s.1.n then QfW ({ s.1 with votes := Xc s.1.votes m.frm }, s.2)
 else (true, ({ s.1 with votes := Xc s.1.votes m.frm }, s.2))
theorem QjO : Yh = Qdu := by funext s m; unfold Yh Qdu; rw [Qjp]
def Qef (s : NS) (m : Msg) : Bool × NS :=
 if ¬ s.1.role = 2 ∨ ¬ m.term = s.1.g.term then (true, s)
 else
  let to := m.frm.toNat
  if m.ok = false then (true, ((s.1.setPeer to (max (min (s.1.nxt to - 1) (m.index + 1)) (s.1.mat to + 1), s.1.mat to)).feed to, s.2))
  else
   let k := max (s.1.mat to) (min m.index s.1.g.last)
   let x := Qb8 (s.1.setPeer to (k + 1, k))
   if k + 1 ≤ x.g.last then (true, (x.feed to, s.2)) else (true, (x, s.2))
theorem QkC : Ya = Qef := by funext s m; unfold Ya Qef; rw [QfO]
def Qdm (s : NS) (m : Msg) : Bool × NS :=
 if m.kind = 0 then Za s m else if m.kind = 1 then Qdu s m else if m.kind = 2 ∨ m.kind = 4 then YQ s m else if m.kind = 3 then Qef s m else (true, s)
theorem QlO : Yi = Qdm := by funext s m; unfold Yi Qdm; rw [QjO, QkC]
def Qbi (s : NS) (m : Msg) : Bool × NS :=
 if ¬ m.to = s.1.id ∨ m.frm = s.1.id ∨ m.frm < 0 ∨ m.frm ≥ s.1.n then (true, s)
 else if m.term > s.1.g.term then Xb (QR s (s.1.g.setTermD s.2 m.term (-1))) fun s => Qdm (s.1.newTerm, s.2) m
 else Qdm s m
theorem Qhk : Xu = Qbi := by funext s m; unfold Xu Qbi; rw [QlO]
def yh (s : NS) (cmd : Bs) : (Int × Int × List Msg) × NS :=
 if ¬ s.1.role = 2 then ((0, 0, []), s) else if Xo (Xz s (fun s => yf s cmd)).2 = true then ((0, 0, []), (Xz s (fun s => yf s cmd)).2)
 else (((Xz s (fun s => yf s cmd)).2.1.g.last, (Xz s (fun s => yf s cmd)).2.1.g.term, (Xz s (fun s => yf s cmd)).1), (Xz s (fun s => yf s cmd)).2)
theorem Qhq : XD = yh := by funext s c; unfold XD yh; rw [QfH]
def QbS (m : MS) : MS × List Msg := m.act (Xz (m.x, m.D) Qf3)
def QbT (m : MS) (g : Msg) : MS × List Msg := m.act (Xz (m.x, m.D) (fun s => Qbi s g))
def Qai (m : MS) (c : Bs) : (Int × Int) × (MS × List Msg) := (((yh (m.x, m.D) c).1.1, (yh (m.x, m.D) c).1.2.1), m.act ((yh (m.x, m.D) c).1.2.2, (yh (m.x, m.D) c).2))
theorem Qkq : MS.tick = QbS := by funext m; unfold MS.tick QbS; rw [Qlj]
theorem Qks : MS.recv = QbT := by funext m g; unfold MS.recv QbT; rw [Qhk]
theorem Qku : MS.prop = Qai := by funext m c; unfold MS.prop Qai; rw [Qhq]
def Qeg (G : GS) (i : Nat) : GS := match G.ms[i]? with
 | none => G
 | some m => G.done i (QbS m).1 (QbS m).2
theorem QkF : GS.tick = Qeg := by funext G i; unfold GS.tick Qeg; rw [Qkq]; try rfl
def Qdn (G : GS) (k : Int) : GS :=
 if XX G.st k = true then
  if 0 ≤ (atM G.st k).2.to then match G.ms[(atM G.st k).2.to.toNat]? with
   | none => G.take k
   | some m => (G.take k).done (atM G.st k).2.to.toNat (QbT m (atM G.st k).2).1 (QbT m (atM G.st k).2).2
  else G.take k
 else G
theorem QlS : GS.deliver = Qdn := by funext G k; unfold GS.deliver Qdn; rw [Qks]; try rfl
def QhM (G : GS) (i : Nat) (c : Bs) : (Int × Int) × GS := match G.ms[i]? with
 | none => ((0, 0), G)
 | some m => ((Qai m c).1, G.done i (Qai m c).2.1 (Qai m c).2.2)
theorem jk : GS.propose = QhM := by funext G i c; unfold GS.propose QhM; rw [Qku]; try rfl
def Qcx (G : GS) (k : Nat) : GS := (List.range k).foldl Qeg G
theorem QiX : GS.ticks = Qcx := by funext G k; unfold GS.ticks Qcx; rw [QkF]
def Qb0 (G : GS) : Nat → GS
 | 0 => G
 | k + 1 => if G.st.length > 0 then Qb0 (Qdn G 0) k else G
theorem Qdb (G : GS) : ∀ k, G.dels (k + 1) = G.del1.dels k
 | 0 => rfl
 | k + 1 => by
  show (G.dels (k + 1)).del1 = (G.del1.dels k).del1
  rw [Qdb G k]
theorem QfC : ∀ (k : Nat) (G : GS), G.dels k = Qb0 G k
 | 0, G => rfl
 | k + 1, G => by
  unfold Qb0
  split
  ·rename_i h
   rw [Qdb, QfC k, show G.del1 = Qdn G 0 by unfold GS.del1; rw [if_pos h, QlS]]
  ·rename_i h
   rw [QbA (k := 0) (by omega) (by show G.st.length = 0; omega)]
   rfl
def QaI (G : GS) (n : Nat) : GS := Qb0 (Qcx G n) 200
theorem QiY : GS.round = QaI := by funext G n; unfold GS.round QaI; rw [QiX, QfC]
def Qbw (G : GS) (n : Nat) : Nat → GS
 | 0 => G
 | k + 1 => QaI (Qbw G n k) n
theorem Yb : ∀ (k : Nat) (G : GS) (n : Nat), G.rounds n k = Qbw G n k
 | 0, _, _ => rfl
 | k + 1, G, n => by show (G.rounds n k).round n = QaI (Qbw G n k) n; rw [Yb k, QiY]
theorem QmS : AwOK 1 where
 l1 := by rw [Yb]; decide +kernel
 p := by rw [Yb, jk]; decide +kernel
 t0 := by decide
 l2 := by rw [Yb, Yb, jk]; decide +kernel
 o := by rw [Yb, Yb, jk]; decide +kernel
 d := fun m hm => by
  have h : (((((GS.new 3).rounds 3 60).propose 0 [97]).2.rounds 3 10).ms[0]?).map (fun m => m.l.length) = some 1 := by rw [Yb, Yb, jk]; decide +kernel
  rw [hm] at h; simpa using h
 a := fun m hm => by
  have h : (((((GS.new 3).rounds 3 60).propose 0 [97]).2.rounds 3 10).ms[1]?).map (fun m => m.ap) = some 2 := by rw [Yb, Yb, jk]; decide +kernel
  rw [hm] at h; simpa using h
set_option maxRecDepth 100000
structure Smy where
 id : Nat
 n : Nat
 out : List Msg
 term : Int
 base : Int
 all : List Ent
 role : Int
 leader : Int
 commit : Int
 pat : Int
 peers : List (Int × Int)
 ap : Int
 l : List Bs
deriving DecidableEq
def smy (m : MS) : Smy := ⟨m.x.id, m.x.n, m.x.out, m.x.g.term, m.x.g.base, m.x.g.all, m.x.role, m.x.leader, m.x.commit, m.x.patience, m.x.peers, m.ap, m.l⟩
def Qik (n i : Nat) : Smy := ⟨i, n, [], 1, 0, [(1, [])], if i = 0 then 2 else 0, 0, 1, 0, if i = 0 then (1, 0) :: List.replicate (n - 1) (2, 1) else [], 1, []⟩
structure G100 (n : Nat) (G : GS) : Prop where
 ms : G.ms.map smy = (List.range n).map (Qik n)
 st : G.st.length = 0
theorem G100.st11 {n : Nat} {G : GS} (h : G100 n G) (hn : 0 < n) : St n 0 1 1 1 [] G.er := by
 have hlen : G.ms.length = n := by have := congrArg List.length h.ms; simpa using this
 refine ⟨0, by omega, by show (G.ms.map MS.er).length = n; simpa using hlen, hn, fun i me hi => ?_, List.length_eq_zero_iff.1 h.st⟩
 obtain ⟨m, hm, rfl⟩ : ∃ m, G.ms[i]? = some m ∧ m.er = me := by
  have hi : (G.ms.map MS.er)[i]? = some me := hi
  rw [List.getElem?_map] at hi
  cases hg : G.ms[i]? with
  | none => rw [hg] at hi; cases hi
  | some m => rw [hg] at hi; exact ⟨m, rfl, by simpa using hi⟩
 have hin : i < n := by have := (List.getElem?_eq_some_iff.1 hm).1; omega
 have hs : smy m = Qik n i := by
  have h1 := congrArg (fun l => l[i]?) h.ms
  simp only [List.getElem?_map, hm] at h1
  rw [List.getElem?_range hin] at h1
  simpa using h1
 unfold smy Qik at hs
 injection hs with a1 a2 a3 a4 a5 a6 a7 a8 a9 a10 a11 a12 a13
 have hlast : m.x.g.last = 1 := by unfold LG.last; rw [a5, a6]; rfl
 have hx : m.er.x = m.x := rfl
 refine ⟨⟨a1, a2, a3, a4, by rw [hx, a5]; exact Int.le_refl _, hlast, ?_, ?_, by show m.ap = m.x.commit; rw [a12, a9], ⟨by show m.x.g.base ≤ m.ap; omega, by show m.ap ≤ m.x.commit; omega, by show m.x.commit ≤ m.x.g.last; omega, ?_⟩⟩, fun e => ?_, fun e => ?_⟩
 ·rw [hx]
  unfold LG.termAt
  rw [if_neg (by omega), za (by omega), a5, a6]; rfl
 ·rw [hx]; unfold zO; rw [a5, a6]; rfl
 ·show m.l ++ YM (m.x.g.all.drop (m.ap - m.x.g.base).toNat) = []
  rw [a13, a6, a12, a5]; rfl
 ·subst e
  refine ⟨a7, a8, a10, a9, by rw [hx, a11]; simp; omega, fun j hj hj0 => ?_⟩
  rw [hx, a11, if_pos rfl]
  obtain ⟨j, rfl⟩ : ∃ i, j = i + 1 := ⟨j - 1, by omega⟩
  rw [List.getElem?_cons_succ, List.getElem?_replicate, if_pos (by omega)]
  rfl
 ·rw [if_neg e] at a7
  exact ⟨⟨a7, by rw [hx, a10]; omega⟩, fun _ => ⟨a8, a9⟩⟩
theorem QlV : G100 1 ((GS.new 1).rounds 1 100) := ⟨by rw [Yb]; decide +kernel, by rw [Yb]; decide +kernel⟩
theorem QlU : G100 2 ((GS.new 2).rounds 2 100) := ⟨by rw [Yb]; decide +kernel, by rw [Yb]; decide +kernel⟩
theorem QlT : G100 3 ((GS.new 3).rounds 3 100) := ⟨by rw [Yb]; decide +kernel, by rw [Yb]; decide +kernel⟩
theorem Qk7 {l : List Bs} {c : Bs} (hl : ∀ s ∈ l, s.length ≤ 100) (hc : c.length ≤ 100) : (YL l c).length ≤ l.length + 1 ∧ ∀ s ∈ YL l c, s.length ≤ 100 := by
 unfold YL
 split
 ·exact ⟨by omega, hl⟩
 ·refine ⟨by simp, fun s hs => ?_⟩
  rcases List.mem_append.1 hs with hs | hs
  ·exact hl s hs
  ·simp at hs; subst hs; exact hc
structure CI (n e k : Nat) (G : GS) (l : List Bs) : Prop where
 sj : SJ11 n (cB n k + e) (dB n k) G
 st : ∃ T kk t, 0 < kk ∧ St n 0 T kk t l G.er
 l : l.length ≤ k ∧ ∀ s ∈ l, s.length ≤ 100
theorem CI.cmd {n k : Nat} {G : GS} {l : List Bs} {c : Bs} (h : CI n 0 k G l) (hn : 0 < n ∧ n ≤ 9) (hk : k < 15) (hc : c.length ≤ 100) : ¬ (G.propose 0 c).1.1 = 0 ∧ CI n n (k + 1) (G.cmd6 n 0 c) (YL l c) := by
 obtain ⟨T, kk, t, hkk, hs⟩ := h.st
 have hsj := h.sj
 have hl := h.l
 rw [Nat.add_zero, QfR hk, QfM hk] at hsj
 obtain ⟨h1, e1, e2⟩ := hsj.prop (i := 0) (cmd := c) hn.1 hc
 obtain ⟨h2, e3⟩ := h1.rounds (k := 6) (c := cB n (k + 1) + n) (d := dB n (k + 1))
 obtain ⟨s1, s2⟩ := hs.cmd hn.2 c (j := 6) (by omega)
 obtain ⟨w1, w2⟩ := Qk7 hl.2 hc
 refine ⟨by rw [e1]; show ¬ (G.er.propS 0 c).1.1 = 0; rw [s1]; omega, h2, ⟨T, kk + 1, T, by omega, ?_⟩, by omega, w2⟩
 show St n 0 T (kk + 1) T (YL l c) ((G.propose 0 c).2.rounds n 6).er
 rw [e3, e2]
 exact s2
theorem CI.comps {n k : Nat} {G : GS} {l : List Bs} (h : CI n n k G l) (hk : k ≤ 15) : ∀ j, j ≤ n → CI n (n - j) k (G.comps j) l
 | 0, _ => h
 | j + 1, hj => by
  have h1 := h.comps hk j (by omega)
  obtain ⟨T, kk, t, hkk, hs⟩ := h1.st
  have hl := h1.l
  have hsj := h1.sj
  rw [show cB n k + (n - j) = cB n k + (n - (j + 1)) + 1 by omega] at hsj
  obtain ⟨h2, e1, e2⟩ := hsj.comp (i := j) (by omega)
  obtain ⟨s1, s2⟩ := hs.comp hkk ⟨by omega, hl.2⟩ (i := j) (by omega)
  refine ⟨h2, ⟨T, kk, t, hkk, ?_⟩, hl⟩
  show St n 0 T kk t l ((G.comps j).compact j).2.er
  rw [e2]
  exact s2
theorem CI.comp {n k : Nat} {G : GS} {l : List Bs} (h : CI n n k G l) (hk : k ≤ 15) {i : Nat} (hi : i < n) : ((G.comps i).compact i).1 = 0 := by
 have h1 := h.comps hk i (by omega)
 obtain ⟨T, kk, t, hkk, hs⟩ := h1.st
 have hl := h1.l
 have hsj := h1.sj
 rw [show cB n k + (n - i) = cB n k + (n - (i + 1)) + 1 by omega] at hsj
 obtain ⟨h2, e1, e2⟩ := hsj.comp (i := i) hi
 obtain ⟨s1, s2⟩ := hs.comp hkk ⟨by omega, hl.2⟩ hi
 rw [e1, s1]
theorem QlW {G : GS} {m : MS} (h : m ∈ G.ms) : m.er ∈ G.er.ms := List.mem_map.2 ⟨m, h, rfl⟩
theorem CI.fin {n k : Nat} {G : GS} {l : List Bs} (h : CI n 0 k G l) (hn : 0 < n ∧ n ≤ 9) : (((G.crash (n - 1) 0).rounds n 100).leads n).2 = true ∧ ∀ m ∈ ((G.crash (n - 1) 0).rounds n 100).ms, m.l = l := by
 obtain ⟨T, kk, t, hkk, hs⟩ := h.st
 have hsj : SJ11 n (100 * (n + 200) + 1) (100 * n) G := h.sj.leq (by unfold cB; omega) (by unfold dB; omega)
 obtain ⟨h1, e1⟩ := hsj.crash (i := n - 1) (k := 0) (by omega)
 have h1' : SJ11 n (0 + 100 * (n + 200)) (0 + 100 * n) (G.crash (n - 1) 0) := by rw [Nat.zero_add, Nat.zero_add]; exact h1
 obtain ⟨h2, e2⟩ := SJ11.rounds (n := n) (G := G.crash (n - 1) 0) (k := 100) (c := 0) (d := 0) h1'
 have hst : ∃ T kk t, St n 0 T kk t l ((G.crash (n - 1) 0).rounds n 100).er := by
  rw [e2, e1]
  by_cases h3 : n = 1
  ·subst h3
   exact ⟨_, _, _, hs.crash1 (by omega)⟩
  ·exact ⟨T, kk, t, hs.crash hn.2 (by omega) (by omega) (by omega)⟩
 obtain ⟨T', kk', t', hst⟩ := hst
 constructor
 ·rw [← Qbs, hst.leads]
 ·intro m hm
  exact (hst.l _ (QlW hm)).1
theorem Qex {n : Nat} (hn : 0 < n ∧ n ≤ 3) (hg : G100 n ((GS.new n).rounds n 100)) : CompOK n 0 (fun b k G l => CI n (if b = true then n else 0) k G l) where
 l := hn.1
 l1 := by
  have hst := hg.st11 hn.1
  rw [← Qbs, hst.leads]
 init := by
  have hn3 := hn.2
  have hb : cB n 0 + 0 + 100 * (n + 200) ≤ 90000 := by unfold cB; omega
  have hd : dB n 0 + 100 * n ≤ 9000 := by unfold dB; omega
  obtain ⟨h1, _⟩ := SJ11.rounds (n := n) (k := 100) (c := cB n 0 + 0) (d := dB n 0) ((SJ11.new ⟨hn.1, by omega⟩).leq hb hd)
  exact ⟨h1, ⟨1, 1, 1, by omega, hg.st11 hn.1⟩, by simp⟩
 at_ := fun k G l c hk h hc => (CI.cmd h ⟨hn.1, by omega⟩ hk hc).1
 lead := fun k G l c hk h hc => by
  obtain ⟨_, h2⟩ := CI.cmd h ⟨hn.1, by omega⟩ hk hc
  obtain ⟨T, kk, t, hkk, hs⟩ := h2.st
  rw [← Qbs, hs.leads]
 next := fun k G l c hk h hc => (CI.cmd h ⟨hn.1, by omega⟩ hk hc).2
 skip := fun k G l h => ⟨h.sj.leq (by simp) (Nat.le_refl _), h.st, h.l⟩
 comp := fun k G l i hk h hi => CI.comp h hk hi
 comps := fun k G l hk h => by
  have := CI.comps h hk n (Nat.le_refl n)
  rw [Nat.sub_self] at this
  exact this
 end1 := fun k G l hk h => (CI.fin h ⟨hn.1, by omega⟩).1
 end2 := fun k G l m hk h hm => (CI.fin h ⟨hn.1, by omega⟩).2 m hm
theorem QkW (n : Nat) (hn : 1 ≤ n ∧ n ≤ 3) : CompOK n 0 (fun b k G l => CI n (if b = true then n else 0) k G l) := by
 obtain h | h | h : n = 1 ∨ n = 2 ∨ n = 3 := by omega
 ·subst h; exact Qex (by decide) QlV
 ·subst h; exact Qex (by decide) QlU
 ·subst h; exact Qex (by decide) QlT
theorem QmD (n : Nat) (hn : 1 ≤ n ∧ n ≤ 3) : GJ n (cB n 0 + 100 * (n + 200)) (dB n 0 + 100 * n) (GS.new n) := (bud n).leq (by unfold cB; omega) (by unfold dB; omega) (GJ.new (by omega))
end V
end Go.Proofs.YtenfjpigffjgmaaGreat
namespace Go.Proofs.YtenfjpigffjgmaaGreat
open Go.ChangeShapes Go.WideShapes Go.ChangeAt Go.RowKit
open V
set_option maxHeartbeats 1000000 in
set_option maxRecDepth 100000 in
theorem GroupCompacts_holds_lifted (os : Os) (started : os.Started) (H : Type) (enc : TypeId × Value → H) :
  ReturnsInHanded {} Tryz.checked os 7 .any (Rows.groupCompactsSpec.pre6 enc Tryz.prog Tryz.f7 Rows.groupCompactsRow.domain false) (Rows.groupCompactsSpec.post enc Tryz.prog Tryz.f7 false true false false) := by
 refine returnsInHanded_of_change (C := Tryz.checked) own started (by kernel_rfl) Tryz.func7
  (ChangeSpec.witness6 (enc := enc) (C := Tryz.checked) false ⟨#[], #[.int .i64 0, .slice none 0 0, .slice none 0 0], []⟩ 8 (by kernel_rfl) (by kernel_rfl) (by kernel_rfl) (by kernel_rfl)) ?_
 intro W base args ds gs before hval0 hW hcnd _
 have hval : ∀ (j : Nat) t v, Tryz.f7.params[j]? = some t → args[j]? = some v → Value.okWide Tryz.prog W .any base t v := hval0
 have hW' := hW
 obtain ⟨p, q, hA0, hV, rfl, hfz, hnd⟩ := hW
 have hA : DataW.TrodAll enc Tryz.prog W 0 (fun _ => true) true Tryz.f7.params.toList args.toList ds p := hA0
 rw [Tryz.params7] at hA hval
 obtain ⟨v0, vs0, d0, ds0, p0, q0, hargs, rfl, rfl, t0, r0⟩ := trodAll_cons hA
 obtain ⟨v1, vs1, d1, ds1, p1, q1, rfl, rfl, rfl, t1, r1⟩ := trodAll_cons r0
 obtain ⟨v2, vs2, d2, ds2, p2, q2, rfl, rfl, rfl, t2, r2⟩ := trodAll_cons r1
 obtain ⟨rfl, rfl, rfl⟩ := trodAll_nil r2
 obtain rfl : args = #[v0, v1, v2] := by cases args; simp_all
 obtain ⟨rfl, rfl⟩ := trodVars_none hV
 have lt0 : ∀ x ∈ p0, x.block < W.heap.size := by obtain ⟨m, hm⟩ := t0; exact DataW.trod_lt m _ _ _ hm
 obtain ⟨y0, h0⟩ : ∃ y, (QlP .i64) (yN W) v0.cells.toList y := by obtain ⟨m, hm⟩ := t0; exact (Qhm Tryz.underlying3) W m _ _ hm
 obtain ⟨n0, rfl⟩ := okWide_int Tryz.underlying3 (hval 0 3 v0 rfl rfl)
 obtain ⟨e0, h0⟩ := h0
 obtain rfl : y0 = n0 := by have := e0; simp [Value.cells] at this; exact this.symm
 have lt1 : ∀ x ∈ p1, x.block < W.heap.size := by obtain ⟨m, hm⟩ := t1; exact DataW.trod_lt m _ _ _ hm
 obtain ⟨y1, h1⟩ : ∃ y, (zj 1 QdE) (yN W) v1.cells.toList y := by obtain ⟨m, hm⟩ := t1; exact (QcT Tryz.underlying42 (by kernel_rfl) (by decide) (Qhl Tryz.underlying9)) W m _ _ hm
 obtain ⟨a1, len1, cap1, rfl⟩ := okWide_slice Tryz.underlying42 (hval 1 42 v1 rfl rfl)
 obtain ⟨v1, hv1⟩ : ∃ v, v = Value.slice a1 len1 cap1 := ⟨_, rfl⟩
 replace h1 : (zj 1 QdE) (yN W) [v1] y1 := by rw [hv1]; exact h1
 have lt2 : ∀ x ∈ p2, x.block < W.heap.size := by obtain ⟨m, hm⟩ := t2; exact DataW.trod_lt m _ _ _ hm
 obtain ⟨y2, h2⟩ : ∃ y, (zj 1 Qca) (yN W) v2.cells.toList y := by obtain ⟨m, hm⟩ := t2; exact (QcT Tryz.underlying63 (by kernel_rfl) (by decide) (Qgm Tryz.underlying4)) W m _ _ hm
 obtain ⟨a2, len2, cap2, rfl⟩ := okWide_slice Tryz.underlying63 (hval 2 63 v2 rfl rfl)
 obtain ⟨v2, hv2⟩ : ∃ v, v = Value.slice a2 len2 cap2 := ⟨_, rfl⟩
 replace h2 : (zj 1 Qca) (yN W) [v2] y2 := by rw [hv2]; exact h2
 clear hA0 hval0
 subst hv1; subst hv2
 refine (QhC (QbZ (c3 := 10000) (d3 := 1000) (bud 3) ((bud 3).leq (by omega) (by omega) (GJ.new (by decide))) 1 QmS bud QmD QkW _ _ _ y1 y2 h1 h2)).mono fun e W' ⟨he, bel⟩ => ?_
 subst he
 exact ⟨_, rfl, _, _, _, [], _, [], hW', trodAll_mk1 (shut_bool Tryz.underlying4 _), (trodAll_cons_mk (Below.trod Qcw (by kernel_rfl) (of_decide_eq_true (by kernel_rfl)) t0 bel lt0) (trodAll_cons_mk (Below.trod Qcw (by kernel_rfl) (of_decide_eq_true (by kernel_rfl)) t1 bel lt1) (trodAll_cons_mk (Below.trod Qcw (by kernel_rfl) (of_decide_eq_true (by kernel_rfl)) t2 bel lt2) trodAll_mk0))), rfl, bel.frame _, fun h => by cases h⟩
theorem GroupCompacts_holds : Rows.GroupCompactsSaid :=
 OpenClaim.holds_of_wide 7 Tryz.f7 rfl rfl rfl rfl rfl rfl rfl ⟨rfl, rfl, rfl, rfl, rfl⟩ rfl rfl rfl rfl rfl (by kernel_rfl) Tryz.func7 (by kernel_rfl)
  (of_decide_eq_true (by kernel_rfl)) (by unfold Func.isWrapper; first | (rw [if_pos (by decide +kernel)]; kernel_rfl) | (rw [if_neg (by decide +kernel)]; exact ⟨rfl, rfl⟩))
  (fun os started H enc _ => GroupCompacts_holds_lifted os started H enc)
#print axioms GroupCompacts_holds
end Go.Proofs.YtenfjpigffjgmaaGreat
