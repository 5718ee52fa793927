/- The law GroupLone of layer 11, for every input: a lone node is its own majority. -/
import Derived.Test.YtenfjpigffjgmaaGreatWL11Lone4
set_option linter.unusedSimpArgs false
set_option linter.unusedVariables false
namespace Go.Proofs.YtenfjpigffjgmaaGreat
open Go.RowKit
namespace V
set_option maxHeartbeats 4000000
theorem ltE {a b c : Int} (h : a < b) (e : c = b) : a < c := by omega
theorem leE {a b c : Int} (h : a ≤ b) (e : c = b) : a ≤ c := by omega
theorem others1 {x : ND} (hn : x.n = 1) (hid : x.id = 0) : x.others = [] := by unfold ND.others; rw [hn, hid]; decide
theorem mid_lone {x : ND} (hn : x.n = 1) (hid : x.id = 0) : x.mid = x.g.last := by
  unfold ND.mid ND.reach
  rw [others1 hn hid, hn]
  simp
theorem feedAll1 {x : ND} (hn : x.n = 1) (hid : x.id = 0) : x.feedAll = x := by
  rw [feedAll_eq, others1 hn hid]
  unfold ND.sends
  simp
def txts (es : List Ent) : List Bs := (es.map (·.2)).filter (fun s => decide (¬ s = []))
theorem txts_app (a b : List Ent) : txts (a ++ b) = txts a ++ txts b := by simp [txts]
theorem fold_app (i : Int) : ∀ (es : List Ent) (r : MS × List OC), (es.foldl (app1 i) r).1 = { r.1 with ap := r.1.ap + es.length, l := r.1.l ++ txts es }
  | [], r => by simp [txts]
  | e :: es, r => by
    rw [List.foldl_cons, fold_app i es]
    unfold app1
    by_cases h : e.2 = []
    · rw [if_pos h, show txts (e :: es) = txts es by simp [txts, h]]
      dsimp only
      rw [List.length_cons, show r.1.ap + 1 + (es.length : Int) = r.1.ap + ((es.length + 1 : Nat) : Int) by omega]
    · rw [if_neg h, show txts (e :: es) = e.2 :: txts es by simp [txts, h]]
      dsimp only
      rw [List.length_cons, show r.1.ap + 1 + (es.length : Int) = r.1.ap + ((es.length + 1 : Nat) : Int) by omega, List.append_assoc]; rfl
theorem add_last {g : LG} (e : Ent) (hb : 0 ≤ g.base) : (g.play (.add g.last [e])).all = g.all ++ [e] ∧ (g.play (.add g.last [e])).last = g.last + 1 := by
  have h1 : (g.play (.add g.last [e])).all = g.all ++ [e] := by
    show g.all.take (g.last - g.base).toNat ++ [e] = _
    rw [List.take_of_length_le (by unfold LG.last; omega)]
  refine ⟨h1, ?_⟩
  show g.base + ((g.play (.add g.last [e])).all.length : Int) = g.last + 1
  rw [h1]
  unfold LG.last
  simp; omega
theorem entry_lone {x : ND} {c : Bs} (hn : x.n = 1) (hid : x.id = 0) (hb : 0 ≤ x.g.base) (hc : x.commit ≤ x.g.last) : x.entryP c = { x with g := x.g.play (.add x.g.last [(x.g.term, c)]), commit := x.g.last + 1 } := by
  obtain ⟨h1, h2⟩ := add_last (g := x.g) (x.g.term, c) hb
  have hm : ND.mid { x with g := x.g.play (.add x.g.last [(x.g.term, c)]) } = x.g.last + 1 := by rw [mid_lone (x := { x with g := x.g.play (.add x.g.last [(x.g.term, c)]) }) hn hid]; exact h2
  have ht : ND.tAt { x with g := x.g.play (.add x.g.last [(x.g.term, c)]) } (x.g.last + 1) = x.g.term := by
    have hl : x.g.last = x.g.base + x.g.all.length := rfl
    have hb2 : (x.g.play (.add x.g.last [(x.g.term, c)])).base = x.g.base := rfl
    unfold ND.tAt LG.termAt
    dsimp only
    rw [if_neg (by rw [hb2]; omega), at_in (by rw [hb2]; omega), hb2, h1]
    rw [List.getElem?_append_right (by omega), show (x.g.last + 1 - x.g.base - 1).toNat - x.g.all.length = 0 by omega]
    rfl
  unfold ND.entryP
  have hcount : ND.count { x with g := x.g.play (.add x.g.last [(x.g.term, c)]) } = { x with g := x.g.play (.add x.g.last [(x.g.term, c)]), commit := x.g.last + 1 } := by
    unfold ND.count
    rw [hm, if_pos ⟨by show x.g.last + 1 > x.commit; omega, ht⟩]
  rw [hcount]
  exact feedAll1 (x := { x with g := x.g.play (.add x.g.last [(x.g.term, c)]), commit := x.g.last + 1 }) hn hid
structure LX (m : MS) (l : List Bs) : Prop where
  id : m.x.id = 0
  n : m.x.n = 1
  out : m.x.out = []
  base : m.x.g.base = 0
  txt : txts m.x.g.all = l
structure FrN (p : Nat) (m : MS) (l : List Bs) : Prop where
  lx : LX m l
  role : m.x.role = 0
  pat : m.x.patience = p ∧ (p : Int) < limitI 0 m.x.g.term
  com : m.x.commit = 0
  ap : m.ap = 0
  l : m.l = []
structure Ld (m : MS) (l : List Bs) : Prop where
  lx : LX m l
  role : m.x.role = 2
  com : m.x.commit = m.x.g.last ∧ 0 < m.x.g.last
  ap : m.ap = m.x.g.last
  l : m.l = l
theorem Ld.done {m : MS} {l : List Bs} (h : Ld m l) (i : Int) (o : List OC) : (doneS i m o).1 = m := by
  have h1 : m.rest = m := by
    unfold MS.rest
    rw [if_neg (by have := h.lx.base; have := h.ap; have := h.com; omega)]
  unfold doneS
  rw [h1]
  have h2 : m.todo = [] := by unfold MS.todo; rw [h.com.1, h.ap]; simp
  rw [h2]; rfl
theorem done_lone {m : MS} {l : List Bs} (hl : LX m l) (hr : m.x.role = 2) (hc : m.x.commit = m.x.g.last ∧ 0 < m.x.g.last) (ha : 0 ≤ m.ap ∧ m.ap ≤ m.x.g.last) (ht : m.l = txts (m.x.g.all.take m.ap.toNat)) (i : Int) (o : List OC) : Ld (doneS i m o).1 l := by
  have hb := hl.base
  have hla : m.x.g.last = m.x.g.all.length := by unfold LG.last; rw [hb]; simp
  have h1 : m.rest = m := by unfold MS.rest; rw [if_neg (by omega)]
  have h2 : m.todo = m.x.g.all.drop m.ap.toNat := by
    unfold MS.todo
    rw [hb, hc.1]
    rw [show (m.ap - 0).toNat = m.ap.toNat by simp]
    exact List.take_of_length_le (by simp; omega)
  unfold doneS
  rw [h1, fold_app, h2]
  refine ⟨⟨hl.id, hl.n, hl.out, hl.base, hl.txt⟩, hr, hc, ?_, ?_⟩
  · show m.ap + ((m.x.g.all.drop m.ap.toNat).length : Int) = m.x.g.last
    simp; omega
  · show m.l ++ txts (m.x.g.all.drop m.ap.toNat) = l
    rw [ht, ← txts_app, List.take_append_drop]
    exact hl.txt
theorem FrN.tick {p : Nat} {m : MS} {l : List Bs} (h : FrN p m l) (i : Int) (o : List OC) : m.tickS.2 = [] ∧ (FrN (p + 1) (doneS i m.tickS.1 o).1 l ∨ Ld (doneS i m.tickS.1 o).1 l) := by
  have hb := h.lx.base
  have hla : m.x.g.last = m.x.g.all.length := by unfold LG.last; rw [hb]; simp
  have hr : ¬ m.x.role = 2 := by rw [h.role]; decide
  by_cases h1 : m.x.patience + 1 ≥ limitI m.x.id m.x.g.term
  · have e : m.x.tickP = ND.winP (ND.stands { m.x with patience := m.x.patience + 1, g := { m.x.g with term := m.x.g.term + 1, vote := m.x.id } }) := by
      unfold ND.tickP
      rw [if_neg hr, if_pos h1]
      unfold ND.standP
      rw [if_pos h.lx.n]
    have e2 := entry_lone (x := ND.wins (ND.stands { m.x with patience := m.x.patience + 1, g := { m.x.g with term := m.x.g.term + 1, vote := m.x.id } })) (c := []) h.lx.n h.lx.id (by show 0 ≤ m.x.g.base; omega) (by show m.x.commit ≤ m.x.g.last; rw [h.com]; omega)
    have e3 : m.x.tickP = _ := e.trans e2
    obtain ⟨a1, a2⟩ := add_last (g := { m.x.g with term := m.x.g.term + 1, vote := m.x.id }) (m.x.g.term + 1, []) (by show 0 ≤ m.x.g.base; omega)
    refine ⟨by unfold MS.tickS; rw [e3]; exact h.lx.out, .inr ?_⟩
    unfold MS.tickS
    rw [e3]
    refine done_lone ?ha ?hr ⟨?_, ?_⟩ ⟨?_, ?_⟩ ?_ i o
    case hr => rfl
    case ha =>
      refine ⟨h.lx.id, h.lx.n, rfl, hb, ?_⟩
      refine (congrArg txts a1).trans ?_
      rw [txts_app]
      show txts m.x.g.all ++ [] = l
      rw [h.lx.txt]; simp
    · exact a2.symm
    · have a2' := a2
      show 0 < LG.last _
      refine ltE ?_ a2
      show 0 < m.x.g.last + 1
      omega
    · show 0 ≤ m.ap
      rw [h.ap]; omega
    · show m.ap ≤ LG.last _
      refine leE ?_ a2
      show m.ap ≤ m.x.g.last + 1
      rw [h.ap]; omega
    · show m.l = txts (List.take m.ap.toNat _)
      rw [h.l, h.ap]; rfl
  · have e : m.x.tickP = { m.x with patience := m.x.patience + 1 } := by
      unfold ND.tickP
      rw [if_neg hr, if_neg h1]
    refine ⟨by unfold MS.tickS; rw [e]; exact h.lx.out, .inl ?_⟩
    unfold MS.tickS
    rw [e]
    have e4 : (doneS i { m with x := ND.q { m.x with patience := m.x.patience + 1 } } o).1 = { m with x := ND.q { m.x with patience := m.x.patience + 1 } } := by
      have h1 : ({ m with x := ND.q { m.x with patience := m.x.patience + 1 } } : MS).rest = { m with x := ND.q { m.x with patience := m.x.patience + 1 } } := by
        unfold MS.rest
        exact if_neg (by show ¬ m.x.g.base > m.ap; have := h.ap; omega)
      unfold doneS
      rw [h1]
      have h2 : ({ m with x := ND.q { m.x with patience := m.x.patience + 1 } } : MS).todo = [] := by
        unfold MS.todo
        show List.take (m.x.commit - m.ap).toNat _ = []
        rw [h.com, h.ap]; simp
      rw [h2]; rfl
    rw [e4]
    have hp := h.pat.1
    exact ⟨⟨h.lx.id, h.lx.n, rfl, hb, h.lx.txt⟩, h.role, ⟨by show m.x.patience + 1 = _; omega, by show ((p + 1 : Nat) : Int) < limitI 0 m.x.g.term; rw [h.lx.id] at h1; omega⟩, h.com, h.ap, h.l⟩
theorem Ld.tick {m : MS} {l : List Bs} (h : Ld m l) (i : Int) (o : List OC) : m.tickS.2 = [] ∧ Ld (doneS i m.tickS.1 o).1 l := by
  have key : ∀ p : Int, m.x.tickP = { m.x with patience := p } → m.tickS.2 = [] ∧ Ld (doneS i m.tickS.1 o).1 l := fun p e => by
    have h2 : Ld ({ m with x := ND.q { m.x with patience := p } } : MS) l := ⟨⟨h.lx.id, h.lx.n, rfl, h.lx.base, h.lx.txt⟩, h.role, h.com, h.ap, h.l⟩
    refine ⟨by unfold MS.tickS; rw [e]; exact h.lx.out, ?_⟩
    unfold MS.tickS
    rw [e, h2.done]
    exact h2
  by_cases h2 : m.x.patience + 1 ≥ 3
  · refine key 0 ?_
    unfold ND.tickP
    rw [if_pos h.role, if_pos h2]
    exact feedAll1 (x := { m.x with patience := 0 }) h.lx.n h.lx.id
  · refine key (m.x.patience + 1) ?_
    unfold ND.tickP
    rw [if_pos h.role, if_neg h2]
theorem Ld.prop {m : MS} {l : List Bs} (h : Ld m l) (c : Bs) (i : Int) (o : List OC) : (m.propS c).2.2 = [] ∧ (m.propS c).1.1 = (doneS i (m.propS c).2.1 o).1.ap ∧ ¬ (m.propS c).1.1 = 0 ∧ Ld (doneS i (m.propS c).2.1 o).1 (addW l c) := by
  have hb := h.lx.base
  have hla : m.x.g.last = m.x.g.all.length := by unfold LG.last; rw [hb]; simp
  have e := entry_lone (x := m.x) (c := c) h.lx.n h.lx.id (by omega) (by rw [h.com.1]; exact Int.le_refl _)
  obtain ⟨a1, a2⟩ := add_last (g := m.x.g) (m.x.g.term, c) (by omega)
  have hd : Ld (doneS i (m.propS c).2.1 o).1 (addW l c) := by
    unfold MS.propS
    rw [if_pos h.role, e]
    refine done_lone ?hl ?hr ⟨?ha, ?_⟩ ⟨?_, ?_⟩ ?_ i o
    case hr => exact h.role
    case ha => exact a2.symm
    case hl =>
      refine ⟨h.lx.id, h.lx.n, rfl, hb, ?_⟩
      refine (congrArg txts a1).trans ?_
      rw [txts_app, h.lx.txt]
      unfold addW txts
      by_cases hc : c = []
      · simp [hc]
      · simp [hc]
    · refine ltE ?_ a2
      have := h.com.2; omega
    · show 0 ≤ m.ap
      rw [h.ap]; omega
    · refine leE ?_ a2
      show m.ap ≤ m.x.g.last + 1
      rw [h.ap]; omega
    · show m.l = txts (List.take m.ap.toNat (m.x.g.play (.add m.x.g.last [(m.x.g.term, c)])).all)
      rw [a1, h.l, h.ap, hla, ← h.lx.txt]
      simp
  have hat : (m.propS c).1.1 = m.x.g.last + 1 := by
    unfold MS.propS
    rw [if_pos h.role, e]
    exact a2
  have hx : (doneS i (m.propS c).2.1 o).1.x.g.last = m.x.g.last + 1 := by
    have h3 : (doneS i (m.propS c).2.1 o).1.x = (m.propS c).2.1.x := by
      unfold doneS
      rw [(app_x i _ _).1]
      exact (mrest_x _).1
    rw [h3]
    unfold MS.propS
    rw [if_pos h.role, e]
    exact a2
  refine ⟨?_, ?_, by rw [hat]; have := h.com.2; omega, hd⟩
  · unfold MS.propS
    rw [if_pos h.role, e]
    exact h.lx.out
  · rw [hat, hd.ap, hx]
theorem Ld.crash {m : MS} {l : List Bs} (h : Ld m l) : FrN 0 (m.crashS 0 1) l := by
  have hb := h.lx.base
  have hlm := limit_b 0 m.x.g.term
  unfold MS.crashS startS
  rw [if_neg (by omega)]
  exact ⟨⟨rfl, rfl, rfl, hb, h.lx.txt⟩, rfl, ⟨rfl, by show (0 : Int) < limitI 0 m.x.g.term; omega⟩, hb, rfl, rfl⟩
structure LG1 (j k : Nat) (G : GS) (l : List Bs) : Prop where
  sj : SJ11 1 k k G
  ms : ∃ m, G.er.ms = [m] ∧ (FrN j m l ∨ Ld m l)
  st : G.st = []
theorem LG1.tick {j k : Nat} {G : GS} {l : List Bs} (h : LG1 j (k + 1) G l) : LG1 (j + 1) k (G.tick 0) l := by
  obtain ⟨m, hm, hs⟩ := h.ms
  obtain ⟨h1, e1⟩ := h.sj.tick (i := 0) (by omega)
  have hm0 : G.er.ms[0]? = some m := by rw [hm]; rfl
  have e2 : G.er.tickS 0 = G.er.doneS 0 m.tickS.1 m.tickS.2 := by unfold GS.tickS; rw [hm0]
  have hk : m.tickS.2 = [] ∧ (FrN (j + 1) (doneS (0 : Nat) m.tickS.1 G.out).1 l ∨ Ld (doneS (0 : Nat) m.tickS.1 G.out).1 l) := by
    rcases hs with hs | hs
    · exact hs.tick _ _
    · obtain ⟨a, b⟩ := hs.tick ((0 : Nat) : Int) G.out; exact ⟨a, .inr b⟩
  refine ⟨h1, ⟨(doneS (0 : Nat) m.tickS.1 G.out).1, ?_, hk.2⟩, ?_⟩
  · rw [e1, e2]
    show G.er.ms.set 0 _ = _
    rw [hm]; rfl
  · have : (G.tick 0).er.st = G.st ++ numb G.last m.tickS.2 := by rw [e1, e2]; rfl
    rw [hk.1, h.st] at this
    exact this
theorem LG1.ticks {k : Nat} {G : GS} {l : List Bs} : ∀ {j : Nat}, LG1 0 (k + j) G l → LG1 j k (G.tickN 0 j) l
  | 0, h => h
  | j + 1, h => (LG1.ticks (k := k + 1) (j := j) (by rw [show k + 1 + j = k + (j + 1) by omega]; exact h)).tick
theorem LG1.lone {k : Nat} {G : GS} {l : List Bs} {c : Bs} (hc : c.length ≤ 100) (h : LG1 0 (k + 21) G l) : SJ11 1 k k (G.lone c).2 ∧ (G.lone c).2.st = [] ∧ ¬ (G.lone c).1.1 = 0 ∧ ∃ m, (G.lone c).2.er.ms = [m] ∧ m.ap = (G.lone c).1.1 ∧ Ld m (addW l c) := by
  have h1 := LG1.ticks (k := k + 1) (j := 20) h
  obtain ⟨m, hm, hs⟩ := h1.ms
  have hs : Ld m l := by
    rcases hs with hs | hs
    · have h2 := hs.pat.2
      have h3 := limit_b 0 m.x.g.term
      omega
    · exact hs
  unfold GS.lone
  obtain ⟨H, hH⟩ : ∃ H, H = G.tickN 0 20 := ⟨_, rfl⟩
  rw [← hH] at h1 hm ⊢
  clear hH
  obtain ⟨h2, e1, e2⟩ := h1.sj.prop (i := 0) (cmd := c) (by omega) hc
  have hm0 : H.er.ms[0]? = some m := by rw [hm]; rfl
  have e3 : H.er.propS 0 c = ((m.propS c).1, H.er.doneS 0 (m.propS c).2.1 (m.propS c).2.2) := by unfold GS.propS; rw [hm0]
  rw [e3] at e1 e2
  obtain ⟨b1, b2, b3, b4⟩ := hs.prop c ((0 : Nat) : Int) H.out
  refine ⟨h2, ?_, by rw [e1]; exact b3, _, ?_, ?_, b4⟩
  · have : (H.propose 0 c).2.er.st = H.st ++ numb H.last (m.propS c).2.2 := by rw [e2]; rfl
    rw [b1, h1.st] at this
    exact this
  · rw [e2]
    show H.er.ms.set 0 _ = _
    rw [hm]; rfl
  · rw [e1]; exact b2.symm
theorem LG1.fall {k : Nat} {P : GS} {m : MS} {l : List Bs} (a : SJ11 1 (k + 1) k P) (hs : P.st = []) (hm : P.er.ms = [m]) (hl : Ld m l) : LG1 0 k (P.crash 0 0) l := by
  obtain ⟨f1, f2⟩ := a.crash (i := 0) (k := 0) (by omega)
  have e4 : P.er.crashS 0 = { P.er with ms := [m.crashS 0 1] } := by unfold GS.crashS; rw [show P.er.ms[0]? = some m by rw [hm]; rfl, hm]; rfl
  refine ⟨f1, ⟨m.crashS 0 1, by rw [f2, e4], .inl hl.crash⟩, ?_⟩
  have : (P.crash 0 0).er.st = P.st := by rw [f2, e4]; rfl
  rw [hs] at this
  exact this
theorem loneOK : LoneOK (fun k G l => LG1 0 (300 - 30 * k) G l) where
  init := by
    refine ⟨(SJ11.new (by decide)).leq (by omega) (by omega), ⟨(startS 0 1 LG.new DK.new).er, rfl, .inl ?_⟩, rfl⟩
    exact ⟨⟨rfl, rfl, rfl, rfl, rfl⟩, rfl, ⟨rfl, by decide⟩, rfl, rfl, rfl⟩
  at_ := fun k G l c hk h hc => (LG1.lone (k := 300 - 30 * k - 21) hc (by rw [show 300 - 30 * k - 21 + 21 = 300 - 30 * k by omega]; exact h)).2.2.1
  mem := fun k G l c m hk h hc hm => by
    obtain ⟨a, b, d, m1, e1, e2, e3⟩ := LG1.lone (k := 300 - 30 * k - 21) hc (by rw [show 300 - 30 * k - 21 + 21 = 300 - 30 * k by omega]; exact h)
    have h1 := er_at hm
    rw [e1] at h1
    have h2 : m1 = m.er := by simpa using h1
    subst h2
    exact ⟨e2, e3.l⟩
  next := fun k G l c hk h hc => by
    obtain ⟨a, b, d, m1, e1, e2, e3⟩ := LG1.lone (k := 300 - 30 * k - 21) hc (by rw [show 300 - 30 * k - 21 + 21 = 300 - 30 * k by omega]; exact h)
    exact ⟨a.leq (by omega) (by omega), ⟨m1, e1, .inr e3⟩, b⟩
  fall := fun k G l c hk h hc => by
    obtain ⟨a, b, d, m1, e1, e2, e3⟩ := LG1.lone (k := 300 - 30 * k - 21) hc (by rw [show 300 - 30 * k - 21 + 21 = 300 - 30 * k by omega]; exact h)
    exact LG1.fall (a.leq (by omega) (by omega)) b e1 e3
  net := fun k G l h => by rw [h.st]; rfl
end V
end Go.Proofs.YtenfjpigffjgmaaGreat
namespace Go.Proofs.YtenfjpigffjgmaaGreat
open Go.ChangeShapes Go.WideShapes Go.ChangeAt Go.RowKit
open V
set_option maxHeartbeats 1000000 in
set_option maxRecDepth 100000 in
theorem GroupLone_holds_lifted (os : Os) (started : os.Started) (H : Type) (enc : TypeId × Value → H) :
    ReturnsInHanded {} Tryz.checked os 5 .any (Rows.groupLoneSpec.pre6 enc Tryz.prog Tryz.f5 Rows.groupLoneRow.domain false) (Rows.groupLoneSpec.post enc Tryz.prog Tryz.f5 false true false false) := by
  refine returnsInHanded_of_change (C := Tryz.checked) own started (by kernel_rfl) Tryz.func5
    (ChangeSpec.witness6 (enc := enc) (C := Tryz.checked) false ⟨#[], #[.slice none 0 0, .slice none 0 0], []⟩ 8 (by kernel_rfl) (by kernel_rfl) (by kernel_rfl) (by kernel_rfl)) ?_
  intro W base args ds gs before hval0 hW hcnd _
  have hval : ∀ (j : Nat) t v, Tryz.f5.params[j]? = some t → args[j]? = some v → Value.okWide Tryz.prog W .any base t v := hval0
  have hW' := hW
  obtain ⟨p, q, hA0, hV, rfl, hfz, hnd⟩ := hW
  have hA : DataW.TrodAll enc Tryz.prog W 0 (fun _ => true) true Tryz.f5.params.toList args.toList ds p := hA0
  rw [Tryz.params5] at hA hval
  obtain ⟨v0, vs0, d0, ds0, p0, q0, hargs, rfl, rfl, t0, r0⟩ := trodAll_cons hA
  obtain ⟨v1, vs1, d1, ds1, p1, q1, rfl, rfl, rfl, t1, r1⟩ := trodAll_cons r0
  obtain ⟨rfl, rfl, rfl⟩ := trodAll_nil r1
  obtain rfl : args = #[v0, v1] := by cases args; simp_all
  obtain ⟨rfl, rfl⟩ := trodVars_none hV
  have lt0 : ∀ x ∈ p0, x.block < W.heap.size := by obtain ⟨m, hm⟩ := t0; exact DataW.trod_lt m _ _ _ hm
  obtain ⟨y0, h0⟩ : ∃ y, (slcR 1 strR) (oldH W) v0.cells.toList y := by obtain ⟨m, hm⟩ := t0; exact (reads_slc Tryz.underlying42 (by kernel_rfl) (by decide) (reads_str Tryz.underlying9)) W m _ _ hm
  obtain ⟨a0, len0, cap0, rfl⟩ := okWide_slice Tryz.underlying42 (hval 0 42 v0 rfl rfl)
  obtain ⟨v0, hv0⟩ : ∃ v, v = Value.slice a0 len0 cap0 := ⟨_, rfl⟩
  replace h0 : (slcR 1 strR) (oldH W) [v0] y0 := by rw [hv0]; exact h0
  have lt1 : ∀ x ∈ p1, x.block < W.heap.size := by obtain ⟨m, hm⟩ := t1; exact DataW.trod_lt m _ _ _ hm
  obtain ⟨y1, h1⟩ : ∃ y, (slcR 1 boolR) (oldH W) v1.cells.toList y := by obtain ⟨m, hm⟩ := t1; exact (reads_slc Tryz.underlying63 (by kernel_rfl) (by decide) (reads_bool Tryz.underlying4)) W m _ _ hm
  obtain ⟨a1, len1, cap1, rfl⟩ := okWide_slice Tryz.underlying63 (hval 1 63 v1 rfl rfl)
  obtain ⟨v1, hv1⟩ : ∃ v, v = Value.slice a1 len1 cap1 := ⟨_, rfl⟩
  replace h1 : (slcR 1 boolR) (oldH W) [v1] y1 := by rw [hv1]; exact h1
  clear hA0 hval0
  subst hv0; subst hv1
  refine (law_calls (groupLone_t (c3 := 10000) (d3 := 1000) (bud 3) ((bud 3).leq (by omega) (by omega) (GJ.new (by decide))) 1 awOK (bud 1) ((bud 1).leq (by omega) (by omega) (GJ.new (by decide))) loneOK _ _ y0 y1 h0 h1)).mono fun e W' ⟨he, bel⟩ => ?_
  subst he
  exact ⟨_, rfl, _, _, _, [], _, [], hW', trodAll_mk1 (shut_bool Tryz.underlying4 _), (trodAll_cons_mk (Below.trod laidOut (by kernel_rfl) (of_decide_eq_true (by kernel_rfl)) t0 bel lt0) (trodAll_cons_mk (Below.trod laidOut (by kernel_rfl) (of_decide_eq_true (by kernel_rfl)) t1 bel lt1) trodAll_mk0)), rfl, bel.frame _, fun h => by cases h⟩
theorem GroupLone_holds : Rows.GroupLoneSaid :=
  OpenClaim.holds_of_wide 5 Tryz.f5 rfl rfl rfl rfl rfl rfl rfl ⟨rfl, rfl, rfl, rfl, rfl⟩ rfl rfl rfl rfl rfl (by kernel_rfl) Tryz.func5 (by kernel_rfl)
    (of_decide_eq_true (by kernel_rfl)) (by unfold Func.isWrapper; first | (rw [if_pos (by decide +kernel)]; kernel_rfl) | (rw [if_neg (by decide +kernel)]; exact ⟨rfl, rfl⟩))
    (fun os started H enc _ => GroupLone_holds_lifted os started H enc)
#print axioms GroupLone_holds
end Go.Proofs.YtenfjpigffjgmaaGreat
