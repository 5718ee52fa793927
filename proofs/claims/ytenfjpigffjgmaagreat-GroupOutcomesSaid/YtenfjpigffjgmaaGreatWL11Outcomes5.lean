/- The law GroupOutcomes of layer 11, for every input: each node tells of each entry that it applied once, in order. -/
import Derived.Test.YtenfjpigffjgmaaGreatWL11Outcomes4
set_option linter.unusedSimpArgs false
set_option linter.unusedVariables false
namespace Go.Proofs.YtenfjpigffjgmaaGreat
open Go.RowKit
open Go.Proofs.Tryz
namespace V
set_option maxHeartbeats 4000000
theorem Fx.bind2 {n m : Nat} {P Q : LG → Prop} {r : Bool × NS} {y z : ND} {f : NS → Bool × NS} (h : Fx n P r y) (hm : n ≤ m) (hf : ∀ D, SD n y.g D → Fx m Q (f (y, D)) z) : Fx m P (QU r f) z ∨ Fx m Q (QU r f) z := by
 unfold QU
 rcases h with ⟨h1, h2, h3⟩ | ⟨h1, h2, h3⟩
 ·rw [if_pos h1, show r.2 = (y, r.2.2) from by rw [← h2]]
  exact .inr (hf _ h3)
 ·rw [if_neg (by simp [h1])]
  exact .inl (.inr ⟨h1, h2, h3.imp hm (fun _ h => h)⟩)
def Bad (n : Nat) (Γ : GH) (i : Nat) (P : LG → Prop) : Prop := ∃ Δ, Γ.stp n i Δ ∧ GHI n Δ ∧ ∀ g, P g → ∃ F, LogI n Δ i g F
theorem Qd3 {n i : Nat} {Γ Δ : GH} {P : LG → Prop} (h : Γ.stp n i Δ) (b : Bad n Δ i P) : Bad n Γ i P := by
 obtain ⟨E, h1, h2⟩ := b
 exact ⟨E, Qdv h h1, h2⟩
theorem Act2.bad {n i : Nat} {Γ : GH} {x y : ND} (h : Act2 n Γ i x y) : Bad n Γ i (fun g => g = x.g ∨ g = y.g) := by
 obtain ⟨Δ, h1, h2, ⟨F, h3⟩, ⟨F', h4⟩, _⟩ := h
 exact ⟨Δ, h1, h2, fun g hg => by
  rcases hg with rfl | rfl
  ·exact ⟨F, h3⟩
  ·exact ⟨F', h4⟩⟩
theorem Act2.res {n i : Nat} {Γ : GH} {x y : ND} (h : Act2 n Γ i x y) : Res n Γ i y := by
 obtain ⟨Δ, h1, _, _, _, h5⟩ := h
 exact QaP h1 h5
def Qbt (n : Nat) (Γ : GH) (i : Nat) (N : Nat) (r : Bool × NS) (y : ND) : Prop := ∃ P, Fx N P r y ∧ Bad n Γ i P
theorem QiC {n i N : Nat} {Γ : GH} {x : ND} {D : DK} {F : List Ent} {T I : Int} {m : Msg} (hG : GHI n Γ) (hx : NodeI n Γ i x F) (ub : UB T I x) (hid : x.id = i) (hn : x.n = n) (ho : x.out = []) (hsd : SD N x.g D) (hm : MsgI n Γ m) (hb : MB T I m) (hT : T ≤ 1000000000) (hI : I ≤ 9500) (hN : 17000000 ≤ N) : Qbt n Γ i (N + 6000) (Xk (x, D) m) (x.receiveP m) ∧ Res n Γ i (x.receiveP m) := by
 have ht := ub.inn.term
 have hid2 := ub.inn.idn
 have hnn := ub.inn.nin0 ⟨by omega, by omega, by omega⟩ ho
 have him := (hb.im (by omega) (by omega)).1
 have hmt := hb.term
 unfold Xk ND.receiveP
 dsimp only
 by_cases h1 : ¬ m.to = x.id ∨ m.frm = x.id ∨ m.frm < 0 ∨ m.frm ≥ x.n
 ·rw [if_pos h1, if_pos h1]
  exact ⟨⟨fun g => g = x.g, Fx.ret hsd rfl (by omega), Γ, XW n i Γ, hG, fun g hg => ⟨F, by rw [hg]; exact hx.lo⟩⟩, Zo hG hx ho⟩
 ·rw [if_neg h1, if_neg h1]
  have hf : 0 ≤ m.frm ∧ m.frm < x.n := by omega
  by_cases h2 : m.term > x.g.term
  ·rw [if_pos h2, if_pos h2]
   obtain ⟨hlo, hs, hd, hN2⟩ := hx.term hG h2
   have h3 := ub.inn.set (t := m.term) (v := -1) hmt (by omega) (.inl (by omega))
   have hub2 : UB T I (ND.newTerm { x with g := { x.g with term := m.term, vote := -1 } }) := ⟨h3.inn.newTerm, ub.lb.set hmt (by omega)⟩
   have hk := QgI (x := ND.newTerm { x with g := { x.g with term := m.term, vote := -1 } }) hd hN2 hub2 hid hn ho (Qe6 hs.le hm) hb (by omega) hf (by omega) (Int.le_refl _)
   refine ⟨?_, QaP hs hk.res⟩
   have hst := yi (P := fun g => g = x.g ∨ g = { x.g with term := m.term, vote := -1 }) (by omega) hsd hnn (t := m.term) (v := -1) (by omega) (by omega) (.inl rfl) (.inr rfl)
   rcases Fx.bind2 (m := N + 6000) (f := fun s => Yc (s.1.newTerm, s.2) m) (z := ND.kindP (ND.newTerm { x with g := { x.g with term := m.term, vote := -1 } }) m) (Q := fun g => g = { x.g with term := m.term, vote := -1 } ∨ g = (ND.kindP (ND.newTerm { x with g := { x.g with term := m.term, vote := -1 } }) m).g) hst (by omega) (fun D' h => Qcx (P := fun g => g = { x.g with term := m.term, vote := -1 } ∨ g = (ND.kindP (ND.newTerm { x with g := { x.g with term := m.term, vote := -1 } }) m).g) (k := 0 + 1) (n := N + 3000) (x := ND.newTerm { x with g := { x.g with term := m.term, vote := -1 } }) (by omega) (by omega) h ((hnn.set (t := m.term) (vt := -1) (by omega) (by omega)).newTerm) (him.to hf (by omega)) ub.inn.commit.1 (.inl rfl) (.inr rfl)) with h4 | h4
   ·exact ⟨_, h4, Γ, XW n i Γ, hG, fun g hg => by
     rcases hg with rfl | rfl
     ·exact ⟨F, hx.lo⟩
     ·exact ⟨F, hlo⟩⟩
   ·exact ⟨_, h4, Qd3 hs hk.bad⟩
  ·rw [if_neg h2, if_neg h2]
   have hk := QgI (m := m) hG hx ub hid hn ho hm hb (by omega) hf (by omega) (by omega)
   exact ⟨⟨_, (Qcx (P := fun g => g = x.g ∨ g = (x.kindP m).g) (k := 0) hN (by omega) hsd hnn (him.to hf (Nat.le_refl _)) ub.inn.commit.1 (.inl rfl) (.inr rfl)).mono (by omega), hk.bad⟩, hk.res⟩
theorem Qlq {n i N : Nat} {Γ : GH} {x : ND} {D : DK} {F : List Ent} {T I : Int} (hG : GHI n Γ) (hx : NodeI n Γ i x F) (ub : UB T I { x with patience := 0 }) (hnn : NIn 0 x) (hid : x.id = i) (hn : x.n = n) (ho : x.out = []) (hsd : SD N x.g D) (hT : T ≤ 1000000000) (hI : I ≤ 9500) : Qbt n Γ i (N + 6000) (Yh (x, D)) x.standP ∧ Res n Γ i x.standP := by
 have ht : 0 ≤ x.g.term ∧ x.g.term ≤ T := ub.inn.term
 have hid2 : x.id < x.n ∧ x.n ≤ 9 := ub.inn.idn
 have htf := hx.tf
 have hla := hx.lo.ag.last
 have hs := Qgs (n := n) (i := i) (Γ := Γ) (t := x.g.term + 1) (F := F) hG (by omega)
 have hd := QmU (F := F) hG (show 0 < x.g.term + 1 by omega) (show Γ.tf i < x.g.term + 1 by omega) hx.lo.pl (fun e he => by have := hx.lo.tm e he; omega) hx.lo.nn
 obtain ⟨Δ, hΔ⟩ : ∃ Δ, Δ = Γ.sdU i (x.g.term + 1) F := ⟨_, rfl⟩
 rw [← hΔ] at hs hd
 obtain ⟨S, hS⟩ : ∃ S : ND, S = ND.stands { x with g := { x.g with term := x.g.term + 1, vote := x.id } } := ⟨_, rfl⟩
 have hSg : S.g = { x.g with term := x.g.term + 1, vote := (x.id : Int) } := by rw [hS]; rfl
 have hag : AG S.g F := by rw [hSg]; exact ⟨hx.lo.ag.b0, hx.lo.ag.b, hx.lo.ag.all, hx.lo.ag.bt⟩
 -- the log, before and behind
 have hlo0 : LogI n Γ i S.g F := by
  refine ⟨hag, hx.lo.pl, fun e he => ?_, hx.lo.nn, fun u y hv => ?_, ?_, ?_, ?_⟩
  ·rw [hSg]; have := hx.lo.tm e he; show e.1 ≤ x.g.term + 1; omega
  ·left; rw [hSg]; rcases hx.lo.vv u y hv with h | h <;> (show u < x.g.term + 1; omega)
  ·rw [hSg]; show Γ.tf i ≤ x.g.term + 1; omega
  ·rw [hSg]; exact yy hx.lo.cb (List.prefix_refl _) (by show x.g.term ≤ x.g.term + 1; omega)
  ·rw [hSg]; exact hx.lo.st
 have hclt : Δ.cl (x.g.term + 1) i = F := by rw [hΔ]; exact QeF
 have hvt : Δ.vt i (x.g.term + 1) i := by rw [hΔ]; exact .inr ⟨rfl, rfl, rfl⟩
 have hlo1 : LogI n Δ i S.g F := by
  refine ⟨hag, Zf hs.le hx.lo.pl, hlo0.tm, fun c k hown ha => ?_, fun u y hv => ?_, ?_, Zj hs.le hlo0.cb, hlo0.st⟩
  ·have hak : ∃ a, k ≤ a ∧ Γ.ak i c a := by rw [hΔ] at ha; exact ha
   have ho2 : Γ.own c k := by rw [hΔ] at hown; exact hown
   exact (hx.lo.nn c k ho2 hak).imp (qB hs.le (Zp ho2)) (YG hs.le)
  ·rw [hΔ] at hv
   rcases hv with hv | ⟨_, rfl, rfl⟩
   ·exact hlo0.vv u y hv
   ·right; rw [hSg]; exact ⟨rfl, by show (x.id : Int) = _; rw [hid]⟩
  ·rw [hΔ, QeE, hSg]; exact Int.le_refl _
 have hSt : S.g.term = x.g.term + 1 := by rw [hSg]
 have hnoel : ¬ Γ.el (x.g.term + 1) i := fun he => by
  have := hG.vtf _ _ _ (hG.elc _ _ he).1
  omega
 have hNS : NodeI n Δ i S F := by
  refine ⟨hlo1, by rw [hΔ, QeE, hSt], ?_, fun h => ?_, fun _ => ⟨by rw [hSt]; exact hclt, by rw [hSt]; exact hvt, ?_, fun v hv => ?_⟩⟩
  ·rw [hSt, show S.commit = x.commit by rw [hS]; rfl]
   exact yy (Zj hs.le hx.cm) (List.prefix_refl _) (by omega)
  ·have : S.role = 1 := by rw [hS]; rfl
   omega
  ·rw [hSt]
   intro he
   apply hnoel
   rw [hΔ] at he; exact he
  ·have : S.votes = [(x.id : Int)] := by rw [hS]; rfl
   rw [this] at hv
   simp at hv
   exact ⟨i, by rw [hv, hid], by rw [hSt]; exact hvt⟩
 have h1 := ((ub.inn.mono (show T ≤ T + 1 by omega) (Int.le_refl _) (Nat.le_refl _)).set (t := x.g.term + 1) (v := x.id) (by omega) (by omega) (.inl (show x.g.term < x.g.term + 1 by omega))).inn.stands
 have hubS : UB (T + 1) I S := by rw [hS]; exact ⟨h1, (ub.lb.mono (by omega) (Int.le_refl _)).set (by omega) (by omega)⟩
 have hst := yi (P := fun g => g = x.g ∨ g = S.g) (by omega) hsd hnn (t := x.g.term + 1) (v := x.id) (by omega) (by omega) (.inl rfl) (.inr hSg.symm)
 have hbad0 : Bad n Γ i (fun g => g = x.g ∨ g = S.g) := ⟨Γ, XW n i Γ, hG, fun g hg => by
  rcases hg with rfl | rfl
  ·exact ⟨F, hx.lo⟩
  ·exact ⟨F, hlo0⟩⟩
 unfold Yh ND.standP
 by_cases hn1 : x.n = 1
 ·rw [if_pos hn1, ← hS]
  have hw := Qia (x := S) hd hNS hubS (by rw [hS]; exact hid) (by rw [hS]; exact hn) (by rw [hS]; rfl) (by rw [hS]; exact ho) (by rw [hSt]; omega) (by rw [show S.votes = [(x.id : Int)] by rw [hS]; rfl]; simp; omega)
  refine ⟨?_, QaP hs hw.res⟩
  rcases Fx.bind2 (m := N + 6000) (Q := fun g => g = S.g ∨ g = S.winP.g) (z := S.winP) (f := fun s => if s.1.n = 1 then Zs (s.1.stands, s.2) else (true, (s.1.stands.askAll, s.2))) hst (by omega) (fun D' h => by
   dsimp only
   rw [if_pos hn1, ← hS]
   have h2 := (hnn.set (t := x.g.term + 1) (vt := x.id) (by omega) (by omega)).stands
   rw [← hS] at h2
   have h' : SD (N + 3000) S.g D' := by rw [hSg]; exact h
   exact Qg5 (k := 0 + 1) (by omega) h' h2 (.inl rfl) (.inr rfl)) with h4 | h4
  ·exact ⟨_, h4, hbad0⟩
  ·exact ⟨_, h4, Qd3 hs hw.bad⟩
 ·rw [if_neg hn1, ← hS]
  have hout : S.out = [] := by rw [hS]; exact ho
  refine ⟨?_, ?_⟩
  ·rcases Fx.bind2 (m := N + 6000) (Q := fun g => g = S.g) (z := S.askAll) (f := fun s => if s.1.n = 1 then Zs (s.1.stands, s.2) else (true, (s.1.stands.askAll, s.2))) hst (by omega) (fun D' h => by
    dsimp only
    rw [if_neg hn1, ← hS]
    exact Fx.ret h (by rw [Qar, hSg]) (by omega)) with h4 | h4
   ·exact ⟨_, h4, hbad0⟩
   ·exact ⟨_, h4, Δ, hs, hd, fun g hg => ⟨F, by rw [hg]; exact hlo1⟩⟩
  ·have hea : S.askAll = S.sends (S.others.map S.askMsg) := by unfold ND.askAll; exact qv S _
   refine ⟨Δ, F, hs, hd, hNS.cong (Qar S) (by rw [hea]; rfl) (fun h => ⟨by rw [hea] at h; exact h, by rw [hea]; rfl⟩) (fun h => ⟨by rw [hea] at h; exact h, by rw [hea]; rfl⟩), fun m hm => ?_⟩
   rw [Qaq hout] at hm
   obtain ⟨m1, hm1, rfl⟩ := List.mem_map.1 hm
   obtain ⟨j, hj, rfl⟩ := List.mem_map.1 hm1
   have hSid : S.id = i := by rw [hS]; exact hid
   refine ⟨fun _ => ⟨i, by show (S.id : Int) = i; rw [hSid], by show Δ.vt i S.g.term i; rw [hSt]; exact hvt, ?_, ?_⟩, fun h => absurd (show (0 : Int) = 1 from h) (by decide), fun h => absurd (show (0 : Int) = 2 from h) (by decide), fun h => absurd (show (0 : Int) = 4 from h) (by decide), fun h => absurd (show (0 : Int) = 3 from h) (by decide)⟩
   ·show S.g.last = ((Δ.cl S.g.term i).length : Int)
    rw [hSt, hclt]; exact hag.last
   ·show S.tAt S.g.last = tmZ (Δ.cl S.g.term i) (Δ.cl S.g.term i).length
    rw [hSt, hclt]; exact Qev hag
theorem Qif {n i N : Nat} {Γ : GH} {x : ND} {D : DK} {F : List Ent} {T I : Int} (hG : GHI n Γ) (hx : NodeI n Γ i x F) (ub : UB T I x) (hid : x.id = i) (hn : x.n = n) (ho : x.out = []) (hsd : SD N x.g D) (hT : T ≤ 1000000000) (hI : I ≤ 9500) : Qbt n Γ i (N + 6000) (tickN (x, D)) x.tickP ∧ Res n Γ i x.tickP := by
 have hp := ub.inn.patience
 have ht := ub.inn.term
 have hlm := Qda x.id x.g.term
 have hquiet : ∀ (y : ND) (r : Bool × NS), r = (true, (y, D)) → y.g = x.g → Res n Γ i y → Qbt n Γ i (N + 6000) r y ∧ Res n Γ i y := fun y r hr hg hres => by
  refine ⟨⟨fun g => g = x.g, ?_, Γ, XW n i Γ, hG, fun g hg => ⟨F, by rw [hg]; exact hx.lo⟩⟩, hres⟩
  rw [hr]
  exact Fx.ret hsd hg (by omega)
 unfold tickN ND.tickP
 dsimp only
 by_cases h1 : x.role = 2
 ·rw [if_pos h1, if_pos h1]
  by_cases h2 : x.patience + 1 ≥ 3
  ·rw [if_pos h2, if_pos h2]
   have hx0 : NodeI n Γ i { x with patience := 0 } F := hx.cong rfl rfl (fun h => ⟨h, rfl⟩) (fun h => ⟨h, rfl⟩)
   refine hquiet _ _ rfl (Zy _) ⟨Γ, F, XW n i Γ, hG, hx0.cong (Zy _) (by rw [Xo]; rfl) (fun h => ⟨by rw [Xo] at h; exact h, by rw [Xo]; rfl⟩) (fun h => ⟨by rw [Xo] at h; exact h, by rw [Xo]; rfl⟩), QcH hx0 (ub.pat (by omega)) hid hn h1 ho⟩
  ·rw [if_neg h2, if_neg h2]
   exact hquiet _ _ rfl rfl (Zo hG (hx.cong rfl rfl (fun h => ⟨h, rfl⟩) (fun h => ⟨h, rfl⟩)) ho)
 ·rw [if_neg h1, if_neg h1]
  by_cases h2 : x.patience + 1 ≥ Zi x.id x.g.term
  ·rw [if_pos h2, if_pos h2]
   have e : ∀ p : Int, ND.standP { x with patience := p } = x.standP := fun p => rfl
   have e2 : Yh ({ x with patience := x.patience + 1 }, D) = Yh ({ x with patience := x.patience }, D) ∨ True := .inr trivial
   rw [e]
   have hx1 : NodeI n Γ i { x with patience := x.patience + 1 } F := hx.cong rfl rfl (fun h => ⟨h, rfl⟩) (fun h => ⟨h, rfl⟩)
   have hnn := ub.inn.nin0 ⟨by omega, by omega, by omega⟩ ho
   have := Qlq (x := { x with patience := x.patience + 1 }) (D := D) hG hx1 (ub.pat (p := 0) (by omega)) (hnn.pat (by omega)) hid hn ho hsd hT hI
   rw [e] at this
   exact this
  ·rw [if_neg h2, if_neg h2]
   exact hquiet _ _ rfl rfl (Zo hG (hx.cong rfl rfl (fun h => ⟨h, rfl⟩) (fun h => ⟨h, rfl⟩)) ho)
theorem QgS {n i N : Nat} {Γ : GH} {x : ND} {D : DK} {F : List Ent} {T I : Int} {cmd : Bs} (hG : GHI n Γ) (hx : NodeI n Γ i x F) (ub : UB T I x) (hid : x.id = i) (hn : x.n = n) (ho : x.out = []) (hsd : SD N x.g D) (hr : x.role = 2) (hc : cmd.length ≤ 100) (hT : T ≤ 1000000000) (hI : I ≤ 9500) : Qbt n Γ i (N + 6000) (QQ (x, D) cmd) (x.entryP cmd) ∧ Res n Γ i (x.entryP cmd) := by
 have ht := ub.inn.term
 have hnn := ub.inn.nin0 ⟨by omega, by omega, by omega⟩ ho
 obtain ⟨a1, a2, a3, a4⟩ := hx.ld hr
 have hs := QgN (e := (x.g.term, cmd)) hG a1
 have hd := Qnj (cmd := cmd) hG a1
 have hlo : LogI n (Γ.exU i x.g.term (x.g.term, cmd)) i x.g F := QaX hG hs.le hx.lo (fun _ _ h => h) (fun _ _ h => h) hx.lo.tf
 have hA := Qfu (Γ := Γ) (z := x) (F := F) (cmd := cmd) hd hs a1 (by rw [jI, a2]) hlo hx.tf (Zj hs.le hx.cm) a4 ub hid hn hr ho hc
 exact ⟨⟨_, (Qdk (P := fun g => g = x.g ∨ g = (x.entryP cmd).g) (by omega) hsd hnn hc (.inl rfl) (.inr rfl)).mono (by omega), hA.bad⟩, hA.res⟩
structure MemS (n : Nat) (Γ : GH) (i : Nat) (m : MS) : Prop where
 up : ¬ m.dn = true → ∃ F, NodeI n Γ i m.x F ∧ m.l = YI (F.take m.ap.toNat)
 dn : m.dn = true → ∀ keep : Int, ∃ rs p g, (m.D.crash keep).b = QZ rs ++ p ∧ ZL p ∧ Plays LG.new rs g ∧ g.down = false ∧ ∃ F, LogI n Γ i g F
theorem QgB {n i j : Nat} {A B : GH} {m : MS} (hA : GHI n A) (h : A.stp n i B) (hj : j ≠ i) (hm : MemS n A j m) : MemS n B j m :=
 ⟨fun hd => by obtain ⟨F, h1, h2⟩ := hm.up hd; exact ⟨F, Qj7 hA h hj h1, h2⟩, fun hd keep => by
  obtain ⟨rs, p, g, h1, h2, h3, h4, F, h5⟩ := hm.dn hd keep
  exact ⟨rs, p, g, h1, h2, h3, h4, F, QgC hA h hj h5⟩⟩
theorem QkC {n : Nat} {Γ : GH} (h : GHI n Γ) {F F' : List Ent} {c c' : Nat} {τ σ : Int} (h1 : Γ.cmt n (F.take c) τ) (h2 : Γ.cmt n (F'.take c') σ) (hc : c ≤ F.length) (hc' : c' ≤ F'.length) {a : Nat} (ha : a ≤ c) (hac : a ≤ c') : F.take a = F'.take a := by
 have key : ∀ (A B : List Ent), A <+: B → a ≤ A.length → A.take a = B.take a := fun A B hp hl => (ze hp hl).symm
 have e1 : (F.take c).take a = F.take a := by rw [List.take_take, Nat.min_eq_left ha]
 have e2 : (F'.take c').take a = F'.take a := by rw [List.take_take, Nat.min_eq_left hac]
 rcases Qmn h h1 h2 with h3 | h3
 ·have := key _ _ h3 (by simp; omega)
  rw [e1, e2] at this; exact this
 ·have := key _ _ h3 (by simp; omega)
  rw [e1, e2] at this; exact this.symm
theorem zi {n i N : Nat} {T I : Int} {Γ : GH} {m : MS} {f : NS → Bool × NS} {y : ND} {N' : Nat} (hG : GHI n Γ) (mi : MI T I N i n m) (u : MU T I N i n m) (ms : MemS n Γ i m) (hd : Qbt n Γ i N' (f (m.x, m.D)) y) (hres : Res n Γ i y) (htr : TR m.x y) (hyc : y.commit ≤ y.g.last) (hyd : y.down = false) :
  ∃ Δ, Γ.stp n i Δ ∧ GHI n Δ ∧ MemS n Δ i (m.act (Xn (m.x, m.D) f)).1 ∧ ∀ g ∈ (m.act (Xn (m.x, m.D) f)).2, MsgI n Δ g := by
 obtain ⟨P, hfx, hbad⟩ := hd
 have hl := mi.l
 have hcm := u.ub.inn.commit
 have hb0 := u.ub.lb.base
 obtain ⟨F, hF, hlF⟩ := ms.up (by rw [u.dn]; decide)
 rcases Qhk u.ub.inn.down u.sd mi.out hfx with ⟨e1, e2, e3⟩ | ⟨e1, e2, e3⟩
 ·obtain ⟨Δ, F', s1, s2, s3, s4⟩ := hres
  have ex : (m.act (Xn (m.x, m.D) f)).1 = { m with x := y.q, D := (Xn (m.x, m.D) f).2.2 } := by unfold MS.act; rw [e2]
  have em : (m.act (Xn (m.x, m.D) f)).2 = y.out := e1
  rw [ex, em]
  have hup : ({ m with x := y.q, D := (Xn (m.x, m.D) f).2.2 } : MS).dn = false := by
   have := Qay (x := y.q) hyd e3
   unfold MS.dn; simpa using this
  refine ⟨Δ, s1, s2, ⟨fun _ => ⟨F', s3.cong rfl rfl (fun h => ⟨h, rfl⟩) (fun h => ⟨h, rfl⟩), ?_⟩, fun h => by rw [hup] at h; cases h⟩, s4⟩
  show m.l = YI (F'.take m.ap.toNat)
  have hla := hF.lo.ag.last
  have hla' := s3.lo.ag.last
  have := htr.com
  have hap := u.ap
  rw [hlF, QkC s2 (Zj s1.le hF.cm) s3.cm (c := m.x.commit.toNat) (c' := y.commit.toNat) (by omega) (by omega) (by omega) (by omega)]
 ·obtain ⟨Δ, s1, s2, s3⟩ := hbad
  have em : (m.act (Xn (m.x, m.D) f)).2 = [] := e1
  rw [em]
  have hdn : (m.act (Xn (m.x, m.D) f)).1.dn = true := YH e3.2.1
  refine ⟨Δ, s1, s2, ⟨fun h => absurd hdn h, fun _ keep => ?_⟩, fun g hg => by cases hg⟩
  obtain ⟨rs, p, g, b1, b2, b3, b4, b5⟩ := e3.2.2 keep
  exact ⟨rs, p, g, b1, b2, b3, b4, s3 g b5⟩
theorem Qkc {n i : Nat} {Γ : GH} {m : MS} {T I : Int} {N : Nat} (mi : MI T I N i n m) (ms : MemS n Γ i m) (j : Int) (o : List OC) : MemS n Γ i (Xh j m o).1 := by
 obtain ⟨ex, eD⟩ := yx j m o
 have hdn : (Xh j m o).1.dn = m.dn := by unfold MS.dn; rw [ex, eD]
 by_cases hd : m.dn = true
 ·have e : Xh j m o = (m, o) := by unfold Xh; rw [if_pos hd]
  rw [e]; exact ms
 ·refine ⟨fun _ => ?_, fun h => absurd (hdn ▸ h) hd⟩
  obtain ⟨F, hF, hlF⟩ := ms.up hd
  rw [ex]
  refine ⟨F, hF, ?_⟩
  have e : Xh j m o = m.rest.todo.foldl (XI j) (m.rest, o) := by unfold Xh; rw [if_neg hd]
  have u : MU T I N i n m := by
   rcases mi.st with u | d
   ·exact u
   ·exact absurd (YH d.1) hd
  have hcm := u.ub.inn.commit
  have hag := hF.lo.ag
  have hb0 := hag.b0
  have hbl := hag.b
  have hla := hag.last
  have hap := u.ap
  have hl := mi.l
  obtain ⟨q1, q2, q3, q4⟩ := zh m
  -- what it starts from
  have hr : m.rest.l = YI (F.take m.rest.ap.toNat) ∧ m.rest.ap ≤ m.x.commit := by
   unfold MS.rest
   split
   ·rename_i h1
    exact ⟨hF.lo.st (by omega), hcm.1⟩
   ·exact ⟨hlF, hap⟩
  rw [e, Qb3]
  show m.rest.l ++ YI m.rest.todo = YI (F.take (m.rest.ap + m.rest.todo.length).toNat)
  have htd : m.rest.todo = (F.drop m.rest.ap.toNat).take (m.x.commit - m.rest.ap).toNat := by
   unfold MS.todo
   rw [q1, hag.all, List.drop_drop, show m.x.g.base.toNat + (m.rest.ap - m.x.g.base).toNat = m.rest.ap.toNat by omega]
  have hlen : m.rest.todo.length = (m.x.commit - m.rest.ap).toNat := by rw [htd]; simp; omega
  rw [hr.1, hlen, htd, ← Qep, ← List.take_add]
  congr 2; omega
theorem Qg2 {P Q : Nat → MS → Prop} {ms : List MS} {i : Nat} {m' : MS} (h : ∀ j m, ms[j]? = some m → P j m) (hpq : ∀ j m, j ≠ i → P j m → Q j m) (h' : Q i m') : ∀ j m, (ms.set i m')[j]? = some m → Q j m := fun j m hj => by
 by_cases e : i = j
 ·subst e
  have hi : i < ms.length := by have := (List.getElem?_eq_some_iff.1 hj).1; simpa using this
  rw [List.getElem?_set_self hi] at hj
  have hj := Option.some.inj hj
  subst hj; exact h'
 ·rw [List.getElem?_set_ne e] at hj
  exact hpq j m (fun h => e h.symm) (h j m hj)
def bM (L : Nat) (T k t : Int) (i : Nat) : Msg := { Msg.zero with kind := 2, frm := L, to := i, term := T, index := k, logTerm := t, commit := k }
def w2 (m : Msg) : Nat := if m.kind = 3 then 1 else 2
structure SafeI (n : Nat) (Γ : GH) (G : GS) : Prop where
 hi : GHI n Γ
 ms : ∀ i m, G.ms[i]? = some m → MemS n Γ i m
 msg : ∀ x ∈ G.st, MsgI n Γ x.2
def Later (n : Nat) (Γ : GH) (G : GS) : Prop := ∃ Δ, Γ.le n Δ ∧ SafeI n Δ G
theorem SafeI.later {n : Nat} {Γ : GH} {G : GS} (h : SafeI n Γ G) : Later n Γ G := ⟨Γ, Qfg n Γ, h⟩
theorem SafeI.done {n a t : Nat} {I : Int} {Γ Δ : GH} {G : GS} (h : SafeI n Γ G) {i : Nat} {m : MS} (hm : G.ms[i]? = some m) {r : MS × List Msg} {T J : Int} {N : Nat} (hs : Γ.stp n i Δ) (hd : GHI n Δ) (hr : MemS n Δ i r.1) (hi : MI T J N i n r.1) (hg : ∀ g ∈ r.2, MsgI n Δ g) : Later n Γ (G.done i r.1 r.2) := by
 refine ⟨Δ, hs.le, hd, Qg2 h.ms (fun j mj hj hP => QgB h.hi hs hj hP) (Qkc hi hr i G.out), fun x hx => ?_⟩
 rcases List.mem_append.1 (show x ∈ G.st ++ XN G.last r.2 from hx) with hx | hx
 ·exact Qe6 hs.le (h.msg x hx)
 ·exact hg _ (zv hx)
theorem SafeI.put {n : Nat} {Γ Δ : GH} {G : GS} (h : SafeI n Γ G) {i : Nat} {m m' : MS} (hm : G.ms[i]? = some m) (hs : Γ.stp n i Δ) (hd : GHI n Δ) (hr : MemS n Δ i m') : Later n Γ { G with ms := G.ms.set i m' } :=
 ⟨Δ, hs.le, hd, Qg2 h.ms (fun j mj hj hP => QgB h.hi hs hj hP) hr, fun x hx => Qe6 hs.le (h.msg x hx)⟩
theorem SafeI.take {n : Nat} {Γ : GH} {G : GS} (h : SafeI n Γ G) (k : Int) : SafeI n Γ (G.take k) :=
 ⟨h.hi, h.ms, fun x hx => h.msg x (by
  have hx : x ∈ Zn G.st k := hx
  unfold Zn at hx
  split at hx
  ·exact List.mem_of_mem_eraseIdx hx
  ·exact hx)⟩
theorem SafeI.tick {n a t : Nat} {I : Int} {Γ : GH} {G : GS} (g : GI n a t I G) (h : SafeI n Γ G) {i : Nat} (ha : a ≤ 90000) (ht : t + 1 ≤ 9400) : Later n Γ (G.tick i) := by
 have hI := g.I
 cases hm : G.ms[i]? with
 | none => unfold GS.tick; rw [hm]; exact h.later
 | some m =>
  rw [zd hm]
  have mi := g.ms i m hm
  obtain ⟨J, b1, b2, b3, b4, b5⟩ := mi.tick (by omega) (by omega)
  have ms := h.ms i m hm
  by_cases hd : m.dn = true
  ·have e : m.tick = (m, []) := by unfold MS.tick; rw [ZJ (show Xm (m.x, m.D) = true from hd)]; exact mi.act0
   rw [e]
   exact h.done (a := a) (t := t) (I := I) (r := (m, [])) hm (XW n i Γ) h.hi ms mi (fun g hg => by cases hg)
  ·have u : MU a I (17000000 + 6000 * a) i n m := by
    rcases mi.st with u | d
    ·exact u
    ·exact absurd (YH d.1) hd
   obtain ⟨F, hF, _⟩ := ms.up hd
   have ht2 := Qif (D := m.D) h.hi hF u.ub u.id u.n mi.out u.sd (by omega) (by omega)
   have hlt := u.ub.inn.tickP
   obtain ⟨Δ, s1, s2, s3, s4⟩ := zi (f := tickN) h.hi mi u ms ht2.1 ht2.2 hlt.tr hlt.inn.commit.2 hlt.inn.down
   exact h.done (a := a) (t := t) (I := I) (r := m.tick) hm s1 s2 s3 b3 s4
theorem SafeI.deliver {n a t : Nat} {I : Int} {Γ : GH} {G : GS} (g : GI n a t I G) (h : SafeI n Γ G) (k : Int) (ha : a ≤ 90000) (ht : t ≤ 9400) : Later n Γ (G.deliver k) := by
 have hI := g.I
 unfold GS.deliver
 split
 ·rename_i hb
  have hmb := g.msg _ (qV hb)
  have hmi := h.msg _ (qV hb)
  split
  ·split
   ·exact (h.take k).later
   ·rename_i m hm
    have mi := g.ms _ m hm
    obtain ⟨J, b1, b2, b3, b4, b5⟩ := mi.recv hmb (by omega) (by omega) (by omega)
    have ms := h.ms _ m hm
    by_cases hd : m.dn = true
    ·have e : m.recv (atM G.st k).2 = (m, []) := by unfold MS.recv; rw [ZJ (show Xm (m.x, m.D) = true from hd)]; exact mi.act0
     rw [e]
     exact (h.take k).done (a := a) (t := t) (I := I) (G := G.take k) (r := (m, [])) hm (XW n _ Γ) h.hi ms mi (fun g hg => by cases hg)
    ·have u : MU a I (17000000 + 6000 * a) (atM G.st k).2.to.toNat n m := by
      rcases mi.st with u | d
      ·exact u
      ·exact absurd (YH d.1) hd
     obtain ⟨F, hF, _⟩ := ms.up hd
     have ht2 := QiC (D := m.D) h.hi hF u.ub u.id u.n mi.out u.sd hmi hmb (by omega) (by omega) (by omega)
     have hlt := u.ub.inn.receiveP hmb.ln
     obtain ⟨Δ, s1, s2, s3, s4⟩ := zi (f := fun s => Xk s (atM G.st k).2) h.hi mi u ms ht2.1 ht2.2 hlt.tr hlt.inn.commit.2 hlt.inn.down
     exact (h.take k).done (a := a) (t := t) (I := I) (G := G.take k) (r := m.recv (atM G.st k).2) hm s1 s2 s3 b3 s4
  ·exact (h.take k).later
 ·exact h.later
theorem SafeI.prop {n a t : Nat} {I : Int} {Γ : GH} {G : GS} (g : GI n a t I G) (h : SafeI n Γ G) {i : Nat} {cmd : Bs} (hc : cmd.length ≤ 100) (ha : a ≤ 90000) (ht : t + 1 ≤ 9400) : Later n Γ (G.propose i cmd).2 := by
 have hI := g.I
 cases hm : G.ms[i]? with
 | none => unfold GS.propose; rw [hm]; exact h.later
 | some m =>
  rw [zg hm]
  have mi := g.ms i m hm
  obtain ⟨J, b1, b2, b3, b4, b5⟩ := mi.prop hc (by omega) (by omega)
  have ms := h.ms i m hm
  have hsame : (m.prop cmd).2 = (m, []) → Later n Γ (G.done i (m.prop cmd).2.1 (m.prop cmd).2.2) := fun e => by
   rw [e]
   exact h.done (a := a) (t := t) (I := I) (r := (m, [])) hm (XW n i Γ) h.hi ms mi (fun g hg => by cases hg)
  by_cases hd : m.dn = true
  ·exact hsame (by rw [Qgw hd, mi.act0])
  ·have u : MU a I (17000000 + 6000 * a) i n m := by
    rcases mi.st with u | d
    ·exact u
    ·exact absurd (YH d.1) hd
   by_cases hr : m.x.role = 2
   ·obtain ⟨F, hF, _⟩ := ms.up hd
    have ht2 := QgS (D := m.D) (cmd := cmd) h.hi hF u.ub u.id u.n mi.out u.sd hr hc (by omega) (by omega)
    have hlt := u.ub.inn.entryP hr hc
    obtain ⟨P, hfx, hbad⟩ := ht2.1
    have e := QaS mi u hr hfx
    obtain ⟨Δ, s1, s2, s3, s4⟩ := zi (f := fun s => QQ s cmd) h.hi mi u ms ⟨P, hfx, hbad⟩ ht2.2 hlt.tr hlt.inn.commit.2 hlt.inn.down
    show Later n Γ (G.done i (m.prop cmd).2.1 (m.prop cmd).2.2)
    rw [← e] at s3 s4
    exact h.done (a := a) (t := t) (I := I) (r := (m.prop cmd).2) hm s1 s2 s3 b3 s4
   ·exact hsame (by rw [jD hr, mi.act0])
theorem SafeI.comp {n a t : Nat} {I : Int} {Γ : GH} {G : GS} (g : GI n a t I G) (h : SafeI n Γ G) {i : Nat} (ha : a ≤ 90000) (ht : t ≤ 9400) : Later n Γ (G.compact i).2 := by
 have hI := g.I
 cases hm : G.ms[i]? with
 | none => unfold GS.compact; rw [hm]; exact h.later
 | some m =>
  rw [zl hm]
  have mi := g.ms i m hm
  have ms := h.ms i m hm
  by_cases hd : m.dn = true
  ·rw [QgY mi.out hd]
   exact h.put hm (XW n i Γ) h.hi ms
  ·have u : MU a I (17000000 + 6000 * a) i n m := by
    rcases mi.st with u | d
    ·exact u
    ·exact absurd (YH d.1) hd
   rw [Qdn mi u]
   by_cases h1 : m.ap < m.x.g.base
   ·rw [if_pos h1]
    exact h.put hm (XW n i Γ) h.hi ms
   ·rw [if_neg h1]
    obtain ⟨F, hF, hl⟩ := ms.up hd
    have hcmm := u.ub.inn.commit
    have hap := u.ap
    have hll := mi.l
    have hai := mi.ap
    have hag := hF.lo.ag
    have hb0 := hag.b0
    have hbl := hag.b
    have hla := hag.last
    have hun := Qgi hll.2 (by omega)
    have hlo2 : LogI n Γ i (m.x.g.comp m.ap (stB m.l)) F := by
     refine ⟨⟨by show 0 ≤ m.ap; omega, by show m.ap.toNat ≤ _; omega, ?_, ?_⟩, hF.lo.pl, hF.lo.tm, hF.lo.nn, hF.lo.vv, hF.lo.tf, ?_, fun _ => ?_⟩
     ·show m.x.g.all.drop (m.ap - m.x.g.base).toNat = F.drop m.ap.toNat
      rw [hag.all, List.drop_drop]; congr 1; omega
     ·show (m.x.g.termAt m.ap).getD 0 = tmZ F m.ap.toNat
      have h2 : m.x.g.termAt (m.ap.toNat : Int) = some (tmZ F m.ap.toNat) := hag.termAt (by omega)
      rw [show ((m.ap.toNat : Nat) : Int) = m.ap by omega] at h2
      rw [h2]; rfl
     ·show Γ.cmt n (F.take m.ap.toNat) m.x.g.term
      exact yy hF.cm (List.take_prefix_take_left (by omega)) (Int.le_refl _)
     ·show unS (stB m.l) = YI (F.take m.ap.toNat)
      rw [hun]; exact hl
    have hsl := zf hll.2 (by omega)
    have hi := (u.ub.inn.comp (i := m.ap) (s := stB m.l) (by omega) (by omega)).inn
    have hla2 : (m.x.g.comp m.ap (stB m.l)).last = m.x.g.last := by unfold LG.comp LG.last at *; simp; omega
    have hy : UB a I { m.x with g := m.x.g.comp m.ap (stB m.l) } := UB.mk0 hi (by show (m.x.g.comp _ _).last ≤ I; rw [hla2]; exact u.ub.lb.last) u.ub.pp (by show ((unS (stB m.l)).length : Int) ≤ m.ap ∧ ∀ s ∈ unS (stB m.l), s.length ≤ 100; rw [hun]; exact hll)
    have hnn := hy.inn.nin0 ⟨by omega, by omega, by omega⟩ mi.out
    have hsw := Qew (P := fun g => g = m.x.g) (to := m.x.g.comp m.ap (stB m.l)) u.sd (hnn.g (by omega)) u.sd.2.2.2.1 (Qai (k := 0) (by omega) hnn) (by omega) rfl
    unfold LG.swapD
    rcases hsw with ⟨p1, p2⟩ | ⟨p1, p2⟩
    ·rw [if_pos p1]
     refine h.put hm (XW n i Γ) h.hi ⟨fun _ => ⟨F, ⟨hlo2, hF.tf, hF.cm, fun hr => hF.ld hr, fun hr => hF.cd hr⟩, hl⟩, fun hdn => ?_⟩
     have := Qay (x := { m.x with g := m.x.g.comp m.ap (stB m.l) }) hy.inn.down p2
     exact absurd hdn this
    ·rw [if_neg p1]
     refine h.put hm (XW n i Γ) h.hi ⟨fun hup => absurd (YH p2.2.1) hup, fun _ keep => ?_⟩
     obtain ⟨rs, p, g', c1, c2, c3, c4, c5⟩ := p2.2.2 keep
     exact ⟨rs, p, g', c1, c2, c3, c4, F, by rw [c5]; exact hF.lo⟩
theorem SafeI.fuel {n : Nat} {Γ : GH} {G : GS} (h : SafeI n Γ G) {i : Nat} (k : Int) : Later n Γ (G.fuel i k) := by
 cases hm : G.ms[i]? with
 | none => unfold GS.fuel; rw [hm]; exact h.later
 | some m =>
  rw [Qbk hm]
  have ms := h.ms i m hm
  exact h.put hm (XW n i Γ) h.hi ⟨fun hd => ms.up hd, fun hd keep => ms.dn hd keep⟩
theorem SafeI.crash {n a t : Nat} {I : Int} {Γ : GH} {G : GS} (g : GI n a t I G) (h : SafeI n Γ G) {i : Nat} (keep : Int) : Later n Γ (G.crash i keep) := by
 cases hm : G.ms[i]? with
 | none => unfold GS.crash; rw [hm]; exact h.later
 | some m =>
  rw [Qam hm, g.len.1]
  have mi := g.ms i m hm
  have ms := h.ms i m hm
  have hk : ∀ keep : Int, ∃ rs p g, (m.D.crash keep).b = QZ rs ++ p ∧ ZL p ∧ Plays LG.new rs g ∧ g.down = false ∧ ∃ F, LogI n Γ i g F := fun keep => by
   by_cases hd : m.dn = true
   ·exact ms.dn hd keep
   ·obtain ⟨F, hF, _⟩ := ms.up hd
    have u : MU a I (17000000 + 6000 * a) i n m := by
     rcases mi.st with u | d
     ·exact u
     ·exact absurd (YH d.1) hd
    exact u.sd.crash_any (P := fun g => ∃ F, LogI n Γ i g F) ⟨F, hF.lo⟩ keep
  obtain ⟨⟨F, hF⟩, hsd⟩ := QfA (P := fun g => ∃ F, LogI n Γ i g F) mi.ok hk keep
  obtain ⟨q, hq⟩ : ∃ q, q = QaB (m.D.crash keep).b := ⟨_, rfl⟩
  unfold MS.crash
  rw [← hq] at hF hsd ⊢
  obtain ⟨D', hD'⟩ : ∃ D', D' = ((m.D.crash keep).open (Qaz (m.D.crash keep).b) (QaA (m.D.crash keep).b)).2 := ⟨_, rfl⟩
  rw [← hD'] at hsd ⊢
  have hs := QcW (n := n) (i := i) (Γ := Γ) (t := q.term) hF.tf
  have hd := Qig h.hi hF.tf
  have hlo : LogI n (Γ.tfU i q.term) i q F := QaX h.hi hs.le hF (fun _ _ h => h) (fun _ _ h => h) (by rw [Qci]; exact Int.le_refl _)
  have hN : NodeI n (Γ.tfU i q.term) i (ND.start i n q) F := ⟨hlo, Qci, hlo.cb, fun hr => absurd (show (0 : Int) = 2 from hr) (by decide), fun hr => absurd (show (0 : Int) = 1 from hr) (by decide)⟩
  have hup : ∀ (l : List Bs) (ap : Int), (⟨ND.start i n q, D', l, ap⟩ : MS).dn = false := fun l ap => by
   have := Qay (x := ND.start i n q) rfl hsd
   unfold MS.dn; simpa using this
  refine h.put hm hs hd ?_
  unfold YF
  have hb0 := hlo.ag.b0
  split
  ·rename_i hb
   exact ⟨fun _ => ⟨F, hN, hlo.st hb⟩, fun hdn => by rw [hup] at hdn; cases hdn⟩
  ·exact ⟨fun _ => ⟨F, hN, by simp [YI]⟩, fun hdn => by rw [hup] at hdn; cases hdn⟩
theorem SafeI.twice {n : Nat} {Γ : GH} {G : GS} (h : SafeI n Γ G) (k : Int) : SafeI n Γ (G.twice k) := by
 refine ⟨h.hi, h.ms, fun x hx => ?_⟩
 have hx : x ∈ twL G.st G.last k := hx
 unfold twL at hx
 split at hx
 ·rename_i hb
  rcases List.mem_append.1 hx with hx | hx
  ·exact h.msg x hx
  ·have := zv hx
   simp at this
   rw [this]
   exact h.msg _ (qV hb)
 ·exact h.msg x hx
theorem SafeI.drop {n : Nat} {Γ : GH} {G : GS} (h : SafeI n Γ G) (k : Int) : SafeI n Γ (G.drop k) := h.take k
def GH.new : GH := ⟨fun _ => [], fun _ _ => [], fun _ _ => False, fun _ _ _ => False, fun _ _ _ => False, fun _ => 0⟩
theorem GHI.new (n : Nat) : GHI n GH.new :=
 ⟨fun _ _ _ h => h.elim, fun _ _ h => h.elim, fun _ _ _ _ h => h.elim, fun _ _ _ h => h.elim, fun _ _ _ h => h.elim, fun _ _ _ h => h.elim, fun _ _ h => h.elim, fun _ _ h => h.elim, fun _ _ h => h.elim, fun _ _ => rfl, fun _ _ h => h.elim, fun _ _ h => h.elim, fun _ _ _ h => h.elim, fun _ _ _ h => h.elim⟩
theorem SafeI.new (n : Nat) : SafeI n GH.new (GS.new n) := by
 refine ⟨GHI.new n, fun i m hm => ?_, fun x hx => by simp [GS.new] at hx⟩
 have hi := (List.getElem?_eq_some_iff.1 hm).1
 have hi : i < n := by simpa [GS.new] using hi
 simp [GS.new, hi] at hm
 subst hm
 have hlo : LogI n GH.new i LG.new [] := ⟨⟨Int.le_refl _, Nat.le_refl _, rfl, rfl⟩, ⟨fun j e h => (by simp at h), List.Pairwise.nil⟩, fun e he => (by cases he), fun c k ho => (by obtain ⟨_, e, he, _⟩ := ho; simp [GH.new] at he), fun _ _ h => h.elim, Int.le_refl _, .inl rfl, fun h => absurd h (by decide)⟩
 refine ⟨fun _ => ⟨[], ⟨hlo, rfl, .inl rfl, fun hr => absurd (show (0 : Int) = 2 from hr) (by decide), fun hr => absurd (show (0 : Int) = 1 from hr) (by decide)⟩, rfl⟩, fun hd => ?_⟩
 rw [show (YF i n LG.new DK.new).dn = false from rfl] at hd
 cases hd
theorem Later.bind {n : Nat} {Γ : GH} {G G' : GS} (h : Later n Γ G) (f : ∀ Δ, SafeI n Δ G → Later n Δ G') : Later n Γ G' := by
 obtain ⟨Δ, h1, h2⟩ := h
 obtain ⟨Ε, h3, h4⟩ := f Δ h2
 exact ⟨Ε, le_trans h1 h3, h4⟩
theorem QhM {n c d : Nat} {Γ : GH} {G : GS} (h : SafeI n Γ G) (hj : GJ n (c + 1) (d + 1) G) (i : Nat) : Later n Γ (G.tick i) := by
 obtain ⟨a, t, I, ha, ht, g⟩ := hj
 exact h.tick g (by omega) (by omega)
theorem QdL {n c d : Nat} {Γ : GH} {G : GS} (h : SafeI n Γ G) (hj : GJ n (c + 1) d G) (k : Int) : Later n Γ (G.deliver k) := by
 obtain ⟨a, t, I, ha, ht, g⟩ := hj
 exact h.deliver g k (by omega) (by omega)
theorem QhN {n c d : Nat} {Γ : GH} {G : GS} (h : SafeI n Γ G) (hj : GJ n (c + 1) (d + 1) G) (i : Nat) {cmd : Bs} (hc : cmd.length ≤ 100) : Later n Γ (G.propose i cmd).2 := by
 obtain ⟨a, t, I, ha, ht, g⟩ := hj
 exact h.prop g hc (by omega) (by omega)
theorem QhO {n c d : Nat} {Γ : GH} {G : GS} (h : SafeI n Γ G) (hj : GJ n (c + 1) d G) (i : Nat) : Later n Γ (G.compact i).2 := by
 obtain ⟨a, t, I, ha, ht, g⟩ := hj
 exact h.comp g (by omega) (by omega)
theorem Qf4 {n c d : Nat} {Γ : GH} {G : GS} (h : SafeI n Γ G) (hj : GJ n (c + 1) d G) (i : Nat) (k : Int) : Later n Γ (G.crash i k) := by
 obtain ⟨a, t, I, ha, ht, g⟩ := hj
 exact h.crash g k
theorem jf {n i : Nat} (hi : i < n) {Γ : GH} {G : GS} (h : SafeI n Γ G) : ∀ {k c d : Nat}, GJ n (c + k) (d + k) G → Later n Γ (G.tickN i k)
 | 0, _, _, _ => h.later
 | k + 1, c, d, hj => (jf hi h (k := k) (c := c + 1) (d := d + 1) (by rw [show c + 1 + k = c + (k + 1) by omega, show d + 1 + k = d + (k + 1) by omega]; exact hj)).bind fun Δ hd => QhM hd ((bud n).tickN hi (c := c + 1) (d := d + 1) (by rw [show c + 1 + k = c + (k + 1) by omega, show d + 1 + k = d + (k + 1) by omega]; exact hj)) i
theorem Qaf {n : Nat} {Γ : GH} {G : GS} (h : SafeI n Γ G) : ∀ {k c d : Nat}, GJ n (c + k) d G → Later n Γ (G.delN k)
 | 0, _, _, _ => h.later
 | k + 1, c, d, hj => (Qaf h (k := k) (c := c + 1) (d := d) (by rw [show c + 1 + k = c + (k + 1) by omega]; exact hj)).bind fun Δ hd => QdL hd ((bud n).delN (c := c + 1) (by rw [show c + 1 + k = c + (k + 1) by omega]; exact hj)) 0
theorem Qi1 {n c d : Nat} {Γ : GH} {G : GS} {e : Ev} (hn : 0 < n) (hb : e.Bd) (hs : e.sm) (hj : GJ n (c + 60) (d + 60) G) (h : SafeI n Γ G) : Later n Γ (G.doE n e) := by
 have hi := Qeb e.i (n := n) (by omega)
 have hil : (idx e.i n).toNat < n := by omega
 have h1 : GJ n (c + 1) (d + 1) G := (bud n).leq (by omega) (by omega) hj
 have h0 : GJ n (c + 1) d G := (bud n).leq (by omega) (by omega) hj
 unfold GS.doE GS.does
 split
 ·rename_i hw
  have := hs.n (.inl hw)
  exact jf hil h (c := c) (d := d) ((bud n).leq (by omega) (by omega) hj)
 ·split
  ·exact QdL h h0 _
  ·split
   ·exact (h.drop _).later
   ·split
    ·split
     ·exact (h.twice _).later
     ·exact h.later
    ·split
     ·exact QhN h h1 _ hs.text
     ·split
      ·exact QhO h h0 _
      ·split
       ·exact Qf4 h h0 _ _
       ·split
        ·exact h.fuel _
        ·split
         ·rename_i hw
          have := hs.n (.inr hw)
          exact Qaf h (c := c) (d := d) ((bud n).leq (by omega) (by omega) hj)
         ·exact h.later
theorem QjA {A B : List Ent} (h : A <+: B) : YI A <+: YI B := by
 obtain ⟨r, rfl⟩ := h
 rw [Qep]
 exact List.prefix_append _ _
set_option maxRecDepth 100000
def qH {α : Type} (f : Int → α) (i : Int) (v : α) : Int → α := fun j => if j = i then v else f j
def ZY (la : Int → Int) (l : List OC) : Nat → Int → Int
 | 0 => la
 | k + 1 => match l[k]? with
  | some o => qH (ZY la l k) o.node o.index
  | none => ZY la l k
def Zt (co : Int → Int) (l : List OC) : Nat → Int → Int
 | 0 => co
 | k + 1 => match l[k]? with
  | some o => qH (Zt co l k) o.node (Zt co l k o.node + 1)
  | none => Zt co l k
def qw (re : Int → Bool) (G : GS) : Nat → Int → Bool
 | 0 => re
 | i + 1 => match G.ms[i]? with
  | some m => if m.x.g.base > 0 then qH (qw re G i) (i : Int) true else qw re G i
  | none => qw re G i
theorem Qcw {la : Int → Int} {l : List OC} {k : Nat} {o : OC} (h : l[k]? = some o) : ZY la l (k + 1) = qH (ZY la l k) o.node o.index := by
 show (match l[k]? with | some o => _ | none => _) = _
 rw [h]
theorem QdZ {co : Int → Int} {l : List OC} {k : Nat} {o : OC} (h : l[k]? = some o) : Zt co l (k + 1) = qH (Zt co l k) o.node (Zt co l k o.node + 1) := by
 show (match l[k]? with | some o => _ | none => _) = _
 rw [h]
theorem QdD {re : Int → Bool} {G : GS} {i : Nat} {m : MS} (h : G.ms[i]? = some m) : qw re G (i + 1) = if m.x.g.base > 0 then qH (qw re G i) (i : Int) true else qw re G i := by
 show (match G.ms[i]? with | some m => _ | none => _) = _
 rw [h]
def MpU (f : Int → Option Value) (g : Int → Int) : Prop := ∀ i, (f i).getD (.int .u64 0) = .int .u64 (g i)
def MpI (f : Int → Option Value) (g : Int → Int) : Prop := ∀ i, (f i).getD (.int .i64 0) = .int .i64 (g i)
def MpB (f : Int → Option Value) (g : Int → Bool) : Prop := ∀ i, (f i).getD (.bool false) = .bool (g i)
theorem MpU.set {f : Int → Option Value} {g : Int → Int} (h : MpU f g) (i v : Int) : MpU (ZC f i (.int .u64 v)) (qH g i v) := fun j => by
 unfold ZC qH
 by_cases hj : j = i
 ·simp [hj]
 ·simp [hj]; exact h j
theorem MpI.set {f : Int → Option Value} {g : Int → Int} (h : MpI f g) (i v : Int) : MpI (ZC f i (.int .i64 v)) (qH g i v) := fun j => by
 unfold ZC qH
 by_cases hj : j = i
 ·simp [hj]
 ·simp [hj]; exact h j
theorem MpB.set {f : Int → Option Value} {g : Int → Bool} (h : MpB f g) (i : Int) (v : Bool) : MpB (ZC f i (.bool v)) (qH g i v) := fun j => by
 unfold ZC qH
 by_cases hj : j = i
 ·simp [hj]
 ·simp [hj]; exact h j
structure OutOK (G : GS) (la : Int → Int) (o : OC) (i : Nat) (m : MS) : Prop where
 nd : o.node = i
 at_ : G.ms[i]? = some m
 gt : la o.node < o.index
 ap : o.index ≤ m.ap
 tm : o.term ≤ m.x.g.term
structure OutsOK (n : Nat) (J : Nat → Nat → GS → Prop) (S : GS → (Int → Int) → (Int → Int) → (Int → Bool) → Prop) : Prop where
 init : S (GS.new n) (fun _ => 0) (fun _ => 0) (fun _ => false)
 tell : ∀ G la co re e c d, e.Bd → e.sm → ¬ e.what = 6 → ¬ e.what = 7 → J (c + 60) (d + 60) G → S G la co re → ∀ k o, (G.doE n e).out[k]? = some o → ∃ i m, i < n ∧ OutOK (G.doE n e) (ZY la (G.doE n e).out k) o i m
 cnt : ∀ G la co re e c d, e.Bd → e.sm → ¬ e.what = 6 → ¬ e.what = 7 → J (c + 60) (d + 60) G → S G la co re → ∀ (k i : Nat), i < n → 0 ≤ Zt co (G.doE n e).out k i ∧ Zt co (G.doE n e).out k i ≤ 100000000
 had : ∀ G la co re e c d, e.Bd → e.sm → ¬ e.what = 6 → ¬ e.what = 7 → J (c + 60) (d + 60) G → S G la co re → ∀ (i : Nat) m, i < n → (G.doE n e).ms[i]? = some m → Zt co (G.doE n e).out (G.doE n e).out.length i ≤ m.l.length ∧ (qw re (G.doE n e) (i + 1) i = false → (m.l.length : Int) = Zt co (G.doE n e).out (G.doE n e).out.length i)
 next : ∀ G la co re e c d, e.Bd → e.sm → ¬ e.what = 6 → ¬ e.what = 7 → J (c + 60) (d + 60) G → S G la co re → S (G.doE n e).outs (ZY la (G.doE n e).out (G.doE n e).out.length) (Zt co (G.doE n e).out (G.doE n e).out.length) (qw re (G.doE n e) n)
theorem QlH {l : List OC} {k : Nat} {o : OC} (h : l[k]? = some o) : ((ocV l).drop ((k : Int).toNat * 4)).take 4 = ocC o := by
 rw [Int.toNat_natCast]
 unfold ocV
 have key : ∀ (l : List OC) (k : Nat), l[k]? = some o → (((l.map ocC).flatten).drop (k * 4)).take 4 = ocC o := fun l => by
  induction l with
  | nil => intro k h; simp at h
  | cons a l ih =>
   intro k h
   match k, h with
   | 0, h =>
    have := Option.some.inj h
    subst this
    simp [ocC]
   | k + 1, h =>
    have := ih k (by simpa using h)
    rw [List.map_cons, List.flatten_cons, show (k + 1) * 4 = 4 + k * 4 by omega, ← List.drop_drop]
    simpa [ocC] using this
 exact key l k h
theorem QlI {o : OC} : ∀ u ∈ ocC o, u.oneCell' = true := fun u hu => by
 unfold ocC at hu
 simp only [List.mem_cons, List.not_mem_nil, or_false] at hu
 rcases hu with rfl | rfl | rfl | rfl <;> rfl
structure M3 where
 fl : Int → Option Value
 nl : Nat
 fc : Int → Option Value
 nc : Nat
 fr : Int → Option Value
 nr : Nat
structure M3ok (s : M3) (la co : Int → Int) (re : Int → Bool) : Prop where
 l : MpU s.fl la
 c : MpI s.fc co
 r : MpB s.fr re
theorem QcA {R : Hp} {C3 c3 d3 : Nat} {J3 : Nat → Nat → GS → Prop} (hB3 : Bud 3 C3 J3) (hj3 : J3 (c3 + 10 * (3 + 200) + 1 + 60 * (3 + 200)) (d3 + 10 * 3 + 1 + 60 * 3) (GS.new 3)) (t : Int) (haw : AwOK t)
  {C : Nat} {JJ : Nat → Nat → Nat → GS → Prop} (hBB : ∀ n, Bud n C (JJ n)) {SS : Nat → GS → (Int → Int) → (Int → Int) → (Int → Bool) → Prop} (hSS : ∀ n, 1 ≤ n ∧ n ≤ 5 → OutsOK n (JJ n) (SS n)) {c d : Nat} (hC : ∀ n, n ≤ 5 → n * C ≤ n * c + 100000) (hJJ : ∀ n, 1 ≤ n ∧ n ≤ 5 → JJ n (c + 3600) (d + 3600) (GS.new n)) (ni : Int) (va : Value) (ys : List EvY) (h0 : QcY 4 evR R [va] ys) :
  Tri prog 4 [.int .i64 ni, va] R [] (fun v R' L' => v = .bool true) := by
 obtain ⟨hva, hbd⟩ := Qnk h0
 obtain ⟨l, hl⟩ : ∃ l, l = ys.map Qb7 := ⟨_, rfl⟩
 rw [← hl] at hva hbd
 obtain ⟨q, cap, rfl, hq1, hq2⟩ := hva.shape
 unfold maxLen at hq2
 refine Qn func4 rfl ntmps4 rfl (fun σ F Q hret hend hpan => ?_)
 try simp only [cB]
 refine Qd fun K1 hK1 => Qc (Ps (Qe (hK1 _ _ _ (Qd fun K2 hK2 => Qd fun K3 hK3 => Qc ?_))))
 refine Ra call9 (Qjp hB3 hj3 t haw) ?_
 rintro r R1 L' hR1 ⟨rfl, rfl⟩
 try simp only [cB]
 refine Pa (Yq rfl) (Qe (hK3 _ _ _ (Qs rfl (Qj (hK2 _ _ _ (Qd fun K4 hK4 => Qd fun K5 hK5 => Qc ?_))))))
 refine Pm ?_
 refine Pa (QO rfl rfl) (Pm ?_)
 refine QE 22 rfl (fun hg22 => ?_) (fun hg22 => ?_)
 try simp only [dx] at hg22
 refine Pk (Pk ?_)
 refine Pa (Qr rfl rfl) (Pm (Pk (Pk (Pk ?_))))
 refine Pa (Qr rfl rfl) (Qe (hK5 _ _ _ (Qv rfl (Qd fun K6 hK6 => Qc ?_))))
 refine Ps (Qe (hK6 _ _ _ (Qi (hret _ _ _ ?_))))
 refine Ea results4 (.cons (Qh rfl) .nil) [] (by first | exact hR1 | exact Hp.le_trans hR1 hR4 | exact Hp.le_refl _) ?_
 rfl
 try simp only [dx] at hg22
 refine Pb (Qg rfl) ?_
 refine Pb (Xs rfl rfl) ?_
 refine Pa (Qo rfl rfl) (Pm ?_)
 refine QE 26 rfl (fun hg26 => ?_) (fun hg26 => ?_)
 try simp only [dx] at hg26
 refine Pk (Pk (Pk ?_))
 refine Pa (Qr rfl rfl) (Qe (hK5 _ _ _ ?_))
 refine Ql (eL 0 rfl (eL 1 rfl (eL 30 rfl eN))) ?_
 refine Qv rfl (Qd fun K7 hK7 => Qc (Ps (Qe (hK7 _ _ _ (Qi (hret _ _ _ ?_))))))
 refine Ea results4 (.cons (Qh rfl) .nil) [] (by first | exact hR1 | exact Hp.le_trans hR1 hR4 | exact Hp.le_refl _) ?_
 rfl
 try simp only [dx] at hg26
 refine Pb (Qg rfl) ?_
 refine XE (wn1 rfl rfl rfl rfl) rfl call10 rfl (Qiq _ l (hva.mono hR1) 60) sp_ (fun _ _ _ _ h => h.elim) ?_
 rintro r R2 L' hR2 ⟨⟨s, rfl, hs⟩, rfl, rfl⟩
 try simp only [cB]
 refine Pb (Yq rfl) ?_
 refine Pa (Qo rfl rfl) (Qe (hK5 _ _ _ ?_))
 refine Qm rfl (fun hc30 => ?_) (fun hc30 => ?_)
 try simp only [dx] at hc30
 refine Qd fun K9 hK9 => Qc (Ps (Qe (hK9 _ _ _ (Qi (hret _ _ _ ?_)))))
 refine Ea results4 (.cons (Qh rfl) .nil) [] (by first | exact hR1 | exact Hp.le_trans hR1 hR4 | exact Hp.le_refl _) ?_
 rfl
 have hsx : s = true := by have hz := hc30; simpa using hz
 have hs60 := (hs hsx).1
 have hsm := (hs hsx).2
 obtain ⟨n, rfl⟩ : ∃ n : Nat, ni = (n : Int) := ⟨ni.toNat, by (try simp at hg22 hg26); omega⟩
 have hn : 1 ≤ n ∧ n ≤ 5 := by (try simp at hg22 hg26); omega
 obtain ⟨J, hJe⟩ : ∃ J, J = JJ n := ⟨_, rfl⟩
 obtain ⟨S, hSe⟩ : ∃ S, S = SS n := ⟨_, rfl⟩
 have hB := hBB n
 have hj := hJJ n hn
 have hS := hSS n hn
 have hCn := hC n hn.2
 rw [← hJe] at hB hj hS
 rw [← hSe] at hS
 clear hJe hSe
 refine Qj (hK4 _ _ _ (Qd fun K10 hK10 => Qc (Pm ?_)))
 refine Ra call19 (QgK n (by omega)) ?_
 rintro r R3 L' hR3 ⟨w, rfl, hok, rfl⟩
 try simp only [cB]
 refine Pm ?_
 refine Pa (Qq rfl rfl) ?_
 refine Pa (Qq rfl rfl) (Ps (Ps (Qe (hK10 _ _ _ (Qd fun K11 hK11 => Qd fun K12 hK12 => Qc ?_)))))
 refine Pm ?_
 refine Pa ((Yld.to (u := .bool false) (XU rfl rfl) (by simp))) (Qe (hK12 _ _ _ (Qs rfl (Qj (hK11 _ _ _ (Qd fun K13 hK13 => Qc ?_))))))
 refine yS (ik := .i64) (wn0 rfl) rfl (fun bl => ?_)
 refine Ps (Qe (hK13 _ _ _ (Qd fun K14 hK14 => Qc ?_)))
 refine yS (ik := .i64) (wn0 rfl) rfl (fun bc => ?_)
 refine Ps (Qe (hK14 _ _ _ (Qd fun K15 hK15 => Qc ?_)))
 refine yS (ik := .i64) (wn0 rfl) rfl (fun br => ?_)
 refine Ps (Qe (hK15 _ _ _ (Qd fun K16 hK16 => Qd fun K17 hK17 => Qc ?_)))
 refine Pm ?_
 refine Pa (QR underlying23 rfl) (Pm (Qe (hK17 _ _ _ (Qp ?_))))
 refine Ql (E' := (fun (x : Nat × (GV × Hp × M3) × (GS × (Int → Int) × (Int → Int) × (Int → Bool))) => [(0, .int .i64 (n : Int)), (5, .pointer (some ⟨w.g, 0, none⟩)), (7, .map (some bl)), (8, .map (some bc)), (9, .map (some br)), (41, .slice q l.length cap), (42, .int .i64 (l.length : Int)), (43, .int .i64 (x.1 : Int))]) (0, (w, R3, ⟨fun _ => none, 0, fun _ => none, 0, fun _ => none, 0⟩), (GS.new n, (fun _ => 0), (fun _ => 0), (fun _ => false)))) (eC rfl (eC rfl (eC rfl (eC rfl (eC rfl (eC rfl (eC rfl (eC rfl eN)))))))) ?_
 refine Xi (M := (fun (x : Nat × (GV × Hp × M3) × (GS × (Int → Int) × (Int → Int) × (Int → Bool))) => Ya bl .i64 x.2.1.2.2.fl x.2.1.2.2.nl :: Ya bc .i64 x.2.1.2.2.fc x.2.1.2.2.nc :: Ya br .i64 x.2.1.2.2.fr x.2.1.2.2.nr :: (grL x.2.1.1 x.2.2.1 ++ F)) (0, (w, R3, ⟨fun _ => none, 0, fun _ => none, 0, fun _ => none, 0⟩), (GS.new n, (fun _ => 0), (fun _ => 0), (fun _ => false)))) sb_ ?_
 refine QY (fun (x : Nat × (GV × Hp × M3) × (GS × (Int → Int) × (Int → Int) × (Int → Bool))) => [(0, .int .i64 (n : Int)), (5, .pointer (some ⟨w.g, 0, none⟩)), (7, .map (some bl)), (8, .map (some bc)), (9, .map (some br)), (41, .slice q l.length cap), (42, .int .i64 (l.length : Int)), (43, .int .i64 (x.1 : Int))]) (fun (x : Nat × (GV × Hp × M3) × (GS × (Int → Int) × (Int → Int) × (Int → Bool))) => x.2.1.2.1) (fun (x : Nat × (GV × Hp × M3) × (GS × (Int → Int) × (Int → Int) × (Int → Bool))) => Ya bl .i64 x.2.1.2.2.fl x.2.1.2.2.nl :: Ya bc .i64 x.2.1.2.2.fc x.2.1.2.2.nc :: Ya br .i64 x.2.1.2.2.fr x.2.1.2.2.nr :: (grL x.2.1.1 x.2.2.1 ++ F)) (fun (x : Nat × (GV × Hp × M3) × (GS × (Int → Int) × (Int → Int) × (Int → Bool))) => x.1 ≤ l.length ∧ (∃ vn css vo cs, x.2.1.1 = ⟨w.g, w.va, w.n, vn, css, vo, cs⟩) ∧ GOk x.2.1.2.1 x.2.1.1 x.2.2.1 ∧ R2.le x.2.1.2.1 ∧ J (c + (l.length - x.1) * 60) (d + (l.length - x.1) * 60) x.2.2.1 ∧ S x.2.2.1 x.2.2.2.1 x.2.2.2.2.1 x.2.2.2.2.2 ∧ M3ok x.2.1.2.2 x.2.2.2.1 x.2.2.2.2.1 x.2.2.2.2.2) (fun (x : Nat × (GV × Hp × M3) × (GS × (Int → Int) × (Int → Int) × (Int → Bool))) => l.length - x.1) (0, (w, R3, ⟨fun _ => none, 0, fun _ => none, 0, fun _ => none, 0⟩), (GS.new n, (fun _ => 0), (fun _ => 0), (fun _ => false))) (⟨by simp, ⟨_, _, _, _, rfl⟩, hok, hR3, hB.leq (by dsimp only; omega) (by dsimp only; omega) hj, hS.init, ⟨fun _ => rfl, fun _ => rfl, fun _ => rfl⟩⟩) ?_
 rintro ⟨i, ⟨w1, R4, s1⟩, ⟨G, la, co, re⟩⟩ ⟨hi, hg1, hok1, hR4, hjG, hSG, hm3⟩
 try dsimp only
 dsimp only at hi hg1 hok1 hR4 hjG hSG hm3
 obtain ⟨vn1, css1, vo1, cs1, rfl⟩ := hg1
 refine Qd fun K18 hK18 => Qc ?_
 refine Pa (QO rfl rfl) (Qe (hK18 _ _ _ (Qd fun K19 hK19 => ?_)))
 refine Qm rfl (fun hc44 => ?_) (fun hc44 => ?_)
 try simp only [dx] at hc44
 refine Qj (hK19 _ _ _ (Qd fun K21 hK21 => Qp (Qd fun K22 hK22 => ?_)))
 have hi2 : i < l.length := by have hz := hc44; omega
 obtain ⟨a, ha⟩ : ∃ x, l[i]? = some x := ⟨_, List.getElem?_eq_getElem hi2⟩
 have ham := List.mem_of_getElem? ha
 obtain ⟨be, oe, ce, cse, hee, rfl, _, hcell⟩ := (hva.mono (Hp.le_trans hR1 hR4)).at ha
 obtain ⟨rfl, rfl⟩ : q = some ⟨be, oe, none⟩ ∧ cap = ce := by cases hee; exact ⟨rfl, rfl⟩
 rw [show (l.length - i) * 60 = (l.length - (i + 1)) * 60 + 60 by omega, ← Nat.add_assoc, ← Nat.add_assoc] at hjG
 have hjn := hB.doE (by omega) (hbd a ham) (hsm a ham) hjG
 refine Qc ?_
 refine Pa (Qy underlying23 sizeOf53 rfl rfl om_) ?_
 refine Pa ((XT m53 (vs := evC a) rfl rfl (fun j u hj => hcell j u hj))) ?_
 refine QA (wn0 rfl) rfl zeroValue53 rfl (fun b6 => ?_)
 refine Sm (vs := evC a) m53 Qdi ?_
 refine Qe (hK22 _ _ _ ?_)
 refine Ql (eL 0 rfl (eL 5 rfl (eL 7 rfl (eL 8 rfl (eL 9 rfl (eL 11 rfl (eL 41 rfl (eL 42 rfl (eL 43 rfl eN))))))))) ?_
 refine Qd fun K23 hK23 => Qd fun K24 hK24 => Qc ?_
 refine Pa (Ga underlying53 sizeOf3) ?_
 refine Pa (La o3) ?_
 refine Pa (QB rfl rfl) (Pm ?_)
 refine QE 50 rfl (fun hg50 => ?_) (fun hg50 => ?_)
 try simp only [dx] at hg50
 refine Pk (Pk (Pk ?_))
 refine Pa (Qr rfl rfl) (Qe (hK24 _ _ _ (Qv rfl (QL (hK21 _ _ _ (Qc ?_))))))
 refine Pa (Qt rfl rfl om_) (Pm (Qe ?_))
 refine Xl (q' := QS _ _ _ _ _ _ _) rfl ?_
 refine QC ((i + 1, (⟨w.g, w.va, w.n, vn1, css1, vo1, cs1⟩, R4, s1), (G, la, co, re))) (⟨by dsimp only; omega, ⟨_, _, _, _, rfl⟩, hok1, hR4, hB.leq (by dsimp only; omega) (by dsimp only; omega) hjG, hSG, hm3⟩) (by dsimp only; omega) (eC rfl (eC rfl (eC rfl (eC rfl (eC rfl (eC rfl (eC rfl (eC rfl eN)))))))) rfl sb_
 try simp only [dx] at hg50
 refine Pb (Ga underlying53 sizeOf3) ?_
 refine Pb (La o3) ?_
 refine Pb (QB rfl rfl) ?_
 refine Pa (Qo rfl rfl) (Qe (hK24 _ _ _ ?_))
 refine Qm rfl (fun hc54 => ?_) (fun hc54 => ?_)
 try simp only [dx] at hc54
 refine QL (hK21 _ _ _ (Qc ?_))
 refine Pa (Qt rfl rfl om_) (Pm (Qe ?_))
 refine Xl (q' := QS _ _ _ _ _ _ _) rfl ?_
 refine QC ((i + 1, (⟨w.g, w.va, w.n, vn1, css1, vo1, cs1⟩, R4, s1), (G, la, co, re))) (⟨by dsimp only; omega, ⟨_, _, _, _, rfl⟩, hok1, hR4, hB.leq (by dsimp only; omega) (by dsimp only; omega) hjG, hSG, hm3⟩) (by dsimp only; omega) (eC rfl (eC rfl (eC rfl (eC rfl (eC rfl (eC rfl (eC rfl (eC rfl eN)))))))) rfl sb_
 have h67 : ¬ a.what = 6 ∧ ¬ a.what = 7 := by (try simp at hg50); have hz := hc54; (try simp at hz); omega
 have htl := hS.tell G la co re a _ _ (hbd a ham) (hsm a ham) h67.1 h67.2 hjG hSG
 have hct := hS.cnt G la co re a _ _ (hbd a ham) (hsm a ham) h67.1 h67.2 hjG hSG
 have hhd := hS.had G la co re a _ _ (hbd a ham) (hsm a ham) h67.1 h67.2 hjG hSG
 have hnx := hS.next G la co re a _ _ (hbd a ham) (hsm a ham) h67.1 h67.2 hjG hSG
 refine Qj (hK23 _ _ _ (Qd fun K26 hK26 => Qc (Pm (Pm ?_))))
 refine Pa ((Lb (vs := evC a) m53)) ?_
 refine Ra call21 (Qod ⟨w.g, w.va, w.n, vn1, css1, vo1, cs1⟩ G n _ _ C hB (by omega) (by have := Nat.mul_le_mul_left n (show c ≤ c + (l.length - (i + 1)) * 60 by omega); omega) a (hbd a ham) (hsm a ham) hok1 hjG) ?_
 rintro x R5 L' hR5 ⟨vn5, css5, vo5, cs5, hok5, rfl⟩
 obtain ⟨G1, hG1⟩ : ∃ G1, G1 = G.doE n a := ⟨_, rfl⟩
 rw [← hG1] at hok5 hjn htl hct hhd hnx ⊢
 have hln := hB.ln _ _ _ hjn
 have hgw := hB.gw _ _ _ hjn
 have hot := hgw.out
 clear hG1
 try simp only [cB]
 refine Qe (hK26 _ _ _ ?_)
 refine Ql (eL 0 rfl (eL 5 rfl (eL 7 rfl (eL 8 rfl (eL 9 rfl (eL 41 rfl (eL 42 rfl (eL 43 rfl eN)))))))) ?_
 refine Qd fun K27 hK27 => Qd fun K28 hK28 => Qc (Pm ?_)
 refine Ra call15 (QbD ⟨w.g, w.va, w.n, vn5, css5, vo5, cs5⟩ G1 hok5) ?_
 rintro vo9 R6 L' hR6 ⟨rfl, rfl, vn6, css6, vo6, cs6, hok6, rfl⟩
 try simp only [cB]
 refine Pa (YE underlying34 rfl fd_) (Pm (Qe (hK28 _ _ _ (Qp ?_))))
 refine Ql (E' := (fun (y : Nat × M3) => [(0, .int .i64 (n : Int)), (5, .pointer (some ⟨w.g, 0, none⟩)), (7, .map (some bl)), (8, .map (some bc)), (9, .map (some br)), (41, .slice (some ⟨be, oe, none⟩) l.length cap), (42, .int .i64 (l.length : Int)), (43, .int .i64 (i : Int)), (60, vo9), (61, .int .i64 (G1.out.length : Int)), (62, .int .i64 (y.1 : Int))]) (0, s1)) (eC rfl (eC rfl (eC rfl (eC rfl (eC rfl (eC rfl (eC rfl (eC rfl (eC rfl (eC rfl (eC rfl eN))))))))))) ?_
 refine Xi (M := (fun (y : Nat × M3) => Ya bl .i64 y.2.fl y.2.nl :: Ya bc .i64 y.2.fc y.2.nc :: Ya br .i64 y.2.fr y.2.nr :: ocS vo9 G1.out :: (grL ⟨w.g, w.va, w.n, vn6, css6, vo6, cs6⟩ G1.outs ++ F)) (0, s1)) sb_ ?_
 refine QY (fun (y : Nat × M3) => [(0, .int .i64 (n : Int)), (5, .pointer (some ⟨w.g, 0, none⟩)), (7, .map (some bl)), (8, .map (some bc)), (9, .map (some br)), (41, .slice (some ⟨be, oe, none⟩) l.length cap), (42, .int .i64 (l.length : Int)), (43, .int .i64 (i : Int)), (60, vo9), (61, .int .i64 (G1.out.length : Int)), (62, .int .i64 (y.1 : Int))]) (fun (y : Nat × M3) => R6) (fun (y : Nat × M3) => Ya bl .i64 y.2.fl y.2.nl :: Ya bc .i64 y.2.fc y.2.nc :: Ya br .i64 y.2.fr y.2.nr :: ocS vo9 G1.out :: (grL ⟨w.g, w.va, w.n, vn6, css6, vo6, cs6⟩ G1.outs ++ F)) (fun (y : Nat × M3) => y.1 ≤ G1.out.length ∧ M3ok y.2 (ZY la G1.out y.1) (Zt co G1.out y.1) re) (fun (y : Nat × M3) => G1.out.length - y.1) (0, s1) (⟨by simp, hm3⟩) ?_
 rintro ⟨k, ⟨fl1, nl1, fc1, nc1, fr1, nr1⟩⟩ ⟨hk, hmk⟩
 try dsimp only
 dsimp only at hk hmk
 refine Qd fun K29 hK29 => Qc ?_
 refine Pa (QO rfl rfl) (Qe (hK29 _ _ _ (Qd fun K30 hK30 => ?_)))
 refine Qm rfl (fun hc63 => ?_) (fun hc63 => ?_)
 try simp only [dx] at hc63
 refine Qj (hK30 _ _ _ (Qd fun K32 hK32 => Qp (Qd fun K33 hK33 => ?_)))
 have hk2 : k < G1.out.length := by have hz := hc63; omega
 obtain ⟨⟨nd, ix, tm, ot⟩, ho⟩ : ∃ o, G1.out[k]? = some o := ⟨_, List.getElem?_eq_getElem hk2⟩
 obtain ⟨j, m0, hjn2, hO⟩ := htl k _ ho
 have hnd : nd = (j : Int) := hO.nd
 subst hnd
 have hgt : ZY la G1.out k (j : Int) < ix := hO.gt
 have hap : ix ≤ m0.ap := hO.ap
 have htm : tm ≤ m0.x.g.term := hO.tm
 have hm0 : G1.outs.ms[j]? = some m0 := hO.at_
 obtain ⟨c0, hc0, hnk, _⟩ := hok6.at hm0
 have hcb := hct k j hjn2
 have hml : ZY la G1.out k (j : Int) = ZY la G1.out k (j : Int) := rfl
 refine Qc ?_
 refine Pa ((XA (sz := 4) (n := G1.out.length) underlying34 sizeOf41 rfl rfl fd_ (by omega))) ?_
 refine Pa ((Qbu (sz := 4) (n := G1.out.length) (vs := [.int .i64 (j : Int), .int .u64 ix, .int .u64 tm, .string (str ot)]) m41 rfl fd_ (QlH ho) rfl (by omega))) ?_
 refine QA (wn0 rfl) rfl zeroValue41 rfl (fun b13 => ?_)
 refine Sm (vs := [.int .i64 (j : Int), .int .u64 ix, .int .u64 tm, .string (str ot)]) m41 (QlI (o := ⟨j, ix, tm, ot⟩)) ?_
 refine Qe (hK33 _ _ _ (Qd fun K34 hK34 => Qd fun K35 hK35 => ?_))
 refine Xr (by kernel_rfl) (by kernel_rfl) ?_
 refine Qa (Ga underlying41 sizeOf3) ?_
 refine Qa (La o3) ?_
 refine Qa ((Yld.to (u := .bool false) (QO rfl rfl) (by rw [decide_eq_false (by omega)]))) ?_
 refine Qa (Qg rfl) ?_
 refine Qb (Ga underlying41 sizeOf3) ?_
 refine Qb (La o3) ?_
 refine Qb (Qg rfl) ?_
 refine Qb ((Yld.to (u := .bool false) (YX rfl rfl) (by rw [decide_eq_false (by omega)]))) ?_
 refine Qa (Qo rfl rfl) ?_
 refine Qa (Qg rfl) ?_
 refine Qb (Ga underlying41 sizeOf36) ?_
 refine Qb (La o36) ?_
 refine Qb (Qg rfl) ?_
 refine Qb (Ga underlying41 sizeOf3) ?_
 refine Qb (La o3) ?_
 refine Qb ((Yld.to (u := .int .u64 (ZY la G1.out k (j : Int))) (ym underlying50 underlying3 zeroValue36 rfl rfl fd_) (by exact hmk.l (j : Int)))) ?_
 refine Qb ((Yld.to (u := .bool false) (zG rfl rfl) (by rw [decide_eq_false (by omega)]))) ?_
 refine Qa (Qo rfl rfl) ?_
 refine Qa (Qg rfl) ?_
 refine Qb (Ga underlying41 sizeOf36) ?_
 refine Qb (La o36) ?_
 refine Qb (Qg rfl) ?_
 refine Qb (Ga underlying41 sizeOf3) ?_
 refine Qb (La o3) ?_
 refine Qb (Ca call18 (QcE (w := ⟨w.g, w.va, w.n, vn6, css6, vo6, cs6⟩) (G := G1.outs) hc0 hm0)) ?_
 refine Qb ((Yld.to (u := .bool false) (Xs rfl rfl) (by rw [decide_eq_false (by omega)]))) ?_
 refine Qa (Qo rfl rfl) ?_
 refine Qa (Qg rfl) ?_
 refine Qb (Ga underlying41 sizeOf36) ?_
 refine Qb (La o36) ?_
 refine Qb (Qg rfl) ?_
 refine Qb (Ga underlying41 sizeOf3) ?_
 refine Qb (La o3) ?_
 refine Qb (Ca call22 (jF (w := ⟨w.g, w.va, w.n, vn6, css6, vo6, cs6⟩) (G := G1.outs) hc0 hm0)) ?_
 refine Qb (Ca call23 (QcB (w := ⟨w.g, w.va, w.n, vn6, css6, vo6, cs6⟩) (G := G1.outs) hc0 hm0)) ?_
 refine Qb (Ca call24 (Qdg (w := ⟨w.g, w.va, w.n, vn6, css6, vo6, cs6⟩) (G := G1.outs) hc0 hm0)) ?_
 refine Qb ((Yld.to (u := .bool false) (Xs rfl rfl) (by rw [decide_eq_false (by omega)]))) ?_
 refine Qa (Qo rfl rfl) ?_
 refine Xb ?_
 refine hK35 _ _ _ ?_
 refine Ql (eL 0 rfl (eL 5 rfl (eL 7 rfl (eL 8 rfl (eL 9 rfl (eL 13 rfl (eL 41 rfl (eL 42 rfl (eL 43 rfl (eL 60 rfl (eL 61 rfl (eL 62 rfl (eL 103 rfl eN))))))))))))) ?_
 refine Qs rfl (Qj (hK34 _ _ _ (Qd fun K36 hK36 => Qc (Pm ?_))))
 refine Pa (Ga underlying41 sizeOf3) ?_
 refine Pa (La o3) ?_
 refine Pa (Ga underlying41 sizeOf36) ?_
 refine Pa (La o36) ?_
 refine ya underlying50 underlying3 (wn0 rfl) rfl rfl rfl fd_ ?_
 refine Qe (hK36 _ _ _ (Qc (Pm ?_)))
 refine Pa (Ga underlying41 sizeOf3) ?_
 refine Pa (La o3) ?_
 refine Pa ((Yld.to (u := .int .i64 (Zt co G1.out k (j : Int))) (ym underlying51 underlying3 zeroValue3 rfl rfl fd_) (by exact hmk.c (j : Int)))) ?_
 refine Pa ((Qt rfl rfl (by omega))) ?_
 refine ya underlying51 underlying3 (wn0 rfl) rfl rfl rfl fd_ ?_
 refine Qe (hK32 _ _ _ (Qc ?_))
 refine Pa (Qt rfl rfl om_) (Pm (Qe ?_))
 refine Xl (q' := QS _ _ _ _ _ _ _) rfl ?_
 refine QC ((k + 1, ⟨ZC fl1 (j : Int) (.int .u64 ix), if (fl1 (j : Int)).isSome then nl1 else nl1 + 1, ZC fc1 (j : Int) (.int .i64 (Zt co G1.out k (j : Int) + 1)), if (fc1 (j : Int)).isSome then nc1 else nc1 + 1, fr1, nr1⟩)) (⟨by dsimp only; omega, by dsimp only; rw [Qcw ho]; exact hmk.l.set _ _, by dsimp only; rw [QdZ ho]; exact hmk.c.set _ _, hmk.r⟩) (by dsimp only; omega) (eC rfl (eC rfl (eC rfl (eC rfl (eC rfl (eC rfl (eC rfl (eC rfl (eC rfl (eC rfl (eC rfl eN))))))))))) rfl sb_
 try simp only [dx] at hc63
 refine QL (hK27 _ _ _ (Qd fun K37 hK37 => ?_))
 have hko : k = G1.out.length := by have hz := hc63; omega
 subst hko
 refine Qc (Pm (Pm (Qe (hK37 _ _ _ (Qp ?_)))))
 refine Ql (E' := (fun (y : Nat × (Int → Option Value) × Nat) => [(0, .int .i64 (n : Int)), (5, .pointer (some ⟨w.g, 0, none⟩)), (7, .map (some bl)), (8, .map (some bc)), (9, .map (some br)), (41, .slice (some ⟨be, oe, none⟩) l.length cap), (42, .int .i64 (l.length : Int)), (43, .int .i64 (i : Int)), (115, .int .i64 (n : Int)), (116, .int .i64 (y.1 : Int))]) (0, fr1, nr1)) (eC rfl (eC rfl (eC rfl (eC rfl (eC rfl (eC rfl (eC rfl (eC rfl (eC rfl (eC rfl eN)))))))))) ?_
 refine Xi (M := (fun (y : Nat × (Int → Option Value) × Nat) => Ya bl .i64 fl1 nl1 :: Ya bc .i64 fc1 nc1 :: Ya br .i64 y.2.1 y.2.2 :: (grL ⟨w.g, w.va, w.n, vn6, css6, vo6, cs6⟩ G1.outs ++ F)) (0, fr1, nr1)) sb_ ?_
 refine QY (fun (y : Nat × (Int → Option Value) × Nat) => [(0, .int .i64 (n : Int)), (5, .pointer (some ⟨w.g, 0, none⟩)), (7, .map (some bl)), (8, .map (some bc)), (9, .map (some br)), (41, .slice (some ⟨be, oe, none⟩) l.length cap), (42, .int .i64 (l.length : Int)), (43, .int .i64 (i : Int)), (115, .int .i64 (n : Int)), (116, .int .i64 (y.1 : Int))]) (fun (y : Nat × (Int → Option Value) × Nat) => R6) (fun (y : Nat × (Int → Option Value) × Nat) => Ya bl .i64 fl1 nl1 :: Ya bc .i64 fc1 nc1 :: Ya br .i64 y.2.1 y.2.2 :: (grL ⟨w.g, w.va, w.n, vn6, css6, vo6, cs6⟩ G1.outs ++ F)) (fun (y : Nat × (Int → Option Value) × Nat) => y.1 ≤ n ∧ MpB y.2.1 (qw re G1 y.1)) (fun (y : Nat × (Int → Option Value) × Nat) => n - y.1) (0, fr1, nr1) (⟨by simp, hmk.r⟩) ?_
 rintro ⟨j, fr2, nr2⟩ ⟨hj, hmr⟩
 try dsimp only
 dsimp only at hj hmr
 refine Qd fun K38 hK38 => Qc ?_
 refine Pa (QO rfl rfl) (Qe (hK38 _ _ _ (Qd fun K39 hK39 => ?_)))
 refine Qm rfl (fun hc117 => ?_) (fun hc117 => ?_)
 try simp only [dx] at hc117
 refine Qj (hK39 _ _ _ (Qd fun K41 hK41 => Qp (Qd fun K42 hK42 => ?_)))
 have hj2 : j < n := by have hz := hc117; omega
 obtain ⟨m0, hm0⟩ : ∃ m, G1.outs.ms[j]? = some m := ⟨_, List.getElem?_eq_getElem (by show j < G1.ms.length; omega)⟩
 obtain ⟨c0, hc0, hnk, _⟩ := hok6.at hm0
 have hhj := hhd j m0 hj2 hm0
 have hrs := QdD (re := re) (G := G1) (show G1.ms[j]? = some m0 from hm0)
 refine Qc (Pm (Ps (Qe (hK42 _ _ _ (Qd fun K43 hK43 => ?_)))))
 have hJ30 : ∀ (z : (Int → Option Value) × Nat), MpB z.1 (qw re G1 (j + 1)) → EJ ⟨prog, 158, σ⟩ K43 [(0, .int .i64 (n : Int)), (5, .pointer (some ⟨w.g, 0, none⟩)), (7, .map (some bl)), (8, .map (some bc)), (9, .map (some br)), (14, .int .i64 (j : Int)), (41, .slice (some ⟨be, oe, none⟩) l.length cap), (42, .int .i64 (l.length : Int)), (43, .int .i64 (i : Int)), (115, .int .i64 (n : Int)), (116, .int .i64 (j : Int))] R6 (Ya bl .i64 fl1 nl1 :: Ya bc .i64 fc1 nc1 :: Ya br .i64 z.1 z.2 :: (grL ⟨w.g, w.va, w.n, vn6, css6, vo6, cs6⟩ G1.outs ++ F)) := by
  rintro ⟨fr3, nr3⟩ hmr3
  try dsimp only
  dsimp only at hmr3
  refine hK43 _ _ _ (Qd fun K44 hK44 => ?_)
  refine qT (A := grA ⟨w.g, w.va, w.n, vn6, css6, vo6, cs6⟩ G1.outs) fd_ (Qen hc0 hm0) (fun hq => ?_)
  obtain ⟨q0, cap0, hq0⟩ := hq
  refine Xr (by kernel_rfl) (by kernel_rfl) ?_
  refine Qa (Qg rfl) ?_
  refine Qa (Qg rfl) ?_
  refine Qa ((Yld.to (u := .bool (qw re G1 (j + 1) (j : Int))) (ym underlying39 underlying3 zeroValue4 rfl rfl fd_) (by exact hmr3 (j : Int)))) ?_
  refine Qa (Yq rfl) ?_
  refine Qa (Qg rfl) ?_
  refine YU 136 rfl (fun hg136 => ?_) (fun hg136 => ?_)
  have hrf : qw re G1 (j + 1) (j : Int) = false := by have hz := hg136; simpa using hz
  have hle := hhj.2 hrf
  refine Qb (Qg rfl) ?_
  refine Qb (Qg rfl) ?_
  refine Qb (Ca call17 ((QcC (w := ⟨w.g, w.va, w.n, vn6, css6, vo6, cs6⟩) (G := G1.outs) hc0 hm0).eq3 hq0)) ?_
  refine Qb (QR underlying42 rfl) ?_
  refine Qb (Qg rfl) ?_
  refine Qb (Qg rfl) ?_
  refine Qb ((Yld.to (u := .int .i64 (Zt co G1.out G1.out.length (j : Int))) (ym underlying51 underlying3 zeroValue3 rfl rfl fd_) (by exact hmk.c (j : Int)))) ?_
  refine Qb ((Yld.to (u := .bool false) (XU rfl rfl) (by rw [hle]; simp))) ?_
  refine Qa (Qr rfl rfl) ?_
  refine Qa (Qg rfl) ?_
  refine Qb (Qg rfl) ?_
  refine Qb (Qg rfl) ?_
  refine Qb (Ca call17 ((QcC (w := ⟨w.g, w.va, w.n, vn6, css6, vo6, cs6⟩) (G := G1.outs) hc0 hm0).eq3 hq0)) ?_
  refine Qb (QR underlying42 rfl) ?_
  refine Qb (Qg rfl) ?_
  refine Qb (Qg rfl) ?_
  refine Qb ((Yld.to (u := .int .i64 (Zt co G1.out G1.out.length (j : Int))) (ym underlying51 underlying3 zeroValue3 rfl rfl fd_) (by exact hmk.c (j : Int)))) ?_
  refine Qb ((Yld.to (u := .bool false) (QO rfl rfl) (by rw [decide_eq_false (by omega)]))) ?_
  refine Qa (Qo rfl rfl) ?_
  refine Xb ?_
  refine hK44 _ _ _ ?_
  refine Ql (eL 0 rfl (eL 5 rfl (eL 7 rfl (eL 8 rfl (eL 9 rfl (eL 41 rfl (eL 42 rfl (eL 43 rfl (eL 115 rfl (eL 116 rfl (eL 155 rfl eN))))))))))) ?_
  refine Qs rfl (Qj (hK41 _ _ _ (Qc ?_)))
  refine Pa (Qt rfl rfl om_) (Pm (Qe ?_))
  refine Xl (q' := QS _ _ _ _ _ _ _) rfl ?_
  refine QC ((j + 1, fr3, nr3)) (⟨by dsimp only; omega, hmr3⟩) (by dsimp only; omega) (eC rfl (eC rfl (eC rfl (eC rfl (eC rfl (eC rfl (eC rfl (eC rfl (eC rfl (eC rfl eN)))))))))) rfl sb_
  try simp only [dx] at hg136
  refine Qk ?_
  refine Qk ?_
  refine Qk ?_
  refine Qk ?_
  refine Qk ?_
  refine Qk ?_
  refine Qk ?_
  refine Qk ?_
  refine Qa (Qo rfl rfl) ?_
  refine Qa (Qg rfl) ?_
  refine Qb (Qg rfl) ?_
  refine Qb (Qg rfl) ?_
  refine Qb (Ca call17 ((QcC (w := ⟨w.g, w.va, w.n, vn6, css6, vo6, cs6⟩) (G := G1.outs) hc0 hm0).eq3 hq0)) ?_
  refine Qb (QR underlying42 rfl) ?_
  refine Qb (Qg rfl) ?_
  refine Qb (Qg rfl) ?_
  refine Qb ((Yld.to (u := .int .i64 (Zt co G1.out G1.out.length (j : Int))) (ym underlying51 underlying3 zeroValue3 rfl rfl fd_) (by exact hmk.c (j : Int)))) ?_
  refine Qb ((Yld.to (u := .bool false) (QO rfl rfl) (by rw [decide_eq_false (by omega)]))) ?_
  refine Qa (Qo rfl rfl) ?_
  refine Xb ?_
  refine hK44 _ _ _ ?_
  refine Ql (eL 0 rfl (eL 5 rfl (eL 7 rfl (eL 8 rfl (eL 9 rfl (eL 41 rfl (eL 42 rfl (eL 43 rfl (eL 115 rfl (eL 116 rfl (eL 155 rfl eN))))))))))) ?_
  refine Qs rfl (Qj (hK41 _ _ _ (Qc ?_)))
  refine Pa (Qt rfl rfl om_) (Pm (Qe ?_))
  refine Xl (q' := QS _ _ _ _ _ _ _) rfl ?_
  refine QC ((j + 1, fr3, nr3)) (⟨by dsimp only; omega, hmr3⟩) (by dsimp only; omega) (eC rfl (eC rfl (eC rfl (eC rfl (eC rfl (eC rfl (eC rfl (eC rfl (eC rfl (eC rfl eN)))))))))) rfl sb_
 refine Qd fun K45 hK45 => Qc (Pm (Pm ?_))
 refine Pa (Ca call22 (jF (w := ⟨w.g, w.va, w.n, vn6, css6, vo6, cs6⟩) (G := G1.outs) hc0 hm0)) ?_
 refine Pa (Ca call23 (QcB (w := ⟨w.g, w.va, w.n, vn6, css6, vo6, cs6⟩) (G := G1.outs) hc0 hm0)) ?_
 refine Pa (Ca call25 (Qmc (w := ⟨w.g, w.va, w.n, vn6, css6, vo6, cs6⟩) (G := G1.outs) hc0 hm0)) (Pm ?_)
 refine Pa (Qq rfl rfl) ?_
 refine Pa (Qq rfl rfl) ?_
 refine Pa (Qq rfl rfl) (Ps (Ps (Ps (Qe (hK45 _ _ _ (Qd fun K46 hK46 => Qc ?_))))))
 refine Pm ?_
 refine Pa (Xs rfl rfl) (Qe (hK46 _ _ _ ?_))
 refine Qm rfl (fun hc129 => ?_) (fun hc129 => ?_)
 have hbs : m0.x.g.base > 0 := by have hz := hc129; (try simp at hz); omega
 refine Qc (Pm (Pm ?_))
 refine ya underlying39 underlying3 (wn0 rfl) rfl rfl rfl fd_ ?_
 refine Qe ?_
 refine QG hJ30 ((ZC fr2 (j : Int) (.bool true), if (fr2 (j : Int)).isSome then nr2 else nr2 + 1)) (by dsimp only; rw [hrs, if_pos hbs]; exact hmr.set _ _) (eC rfl (eC rfl (eC rfl (eC rfl (eC rfl (eC rfl (eC rfl (eC rfl (eC rfl (eC rfl (eC rfl eN))))))))))) rfl sb_
 have hbs : ¬ m0.x.g.base > 0 := by have hz := hc129; (try simp at hz); omega
 refine Qj ?_
 refine QG hJ30 ((fr2, nr2)) (by dsimp only; rw [hrs, if_neg hbs]; exact hmr) (eC rfl (eC rfl (eC rfl (eC rfl (eC rfl (eC rfl (eC rfl (eC rfl (eC rfl (eC rfl (eC rfl eN))))))))))) rfl sb_
 try simp only [dx] at hc117
 refine QL (hK21 _ _ _ ?_)
 refine Ql (eL 0 rfl (eL 5 rfl (eL 7 rfl (eL 8 rfl (eL 9 rfl (eL 41 rfl (eL 42 rfl (eL 43 rfl eN)))))))) ?_
 refine Qc ?_
 refine Pa (Qt rfl rfl om_) (Pm (Qe ?_))
 refine Xl (q' := QS _ _ _ _ _ _ _) rfl ?_
 refine QC ((i + 1, (⟨w.g, w.va, w.n, vn6, css6, vo6, cs6⟩, R6, ⟨fl1, nl1, fc1, nc1, fr2, nr2⟩), (G1.outs, ZY la G1.out G1.out.length, Zt co G1.out G1.out.length, qw re G1 n))) (⟨by dsimp only; omega, ⟨_, _, _, _, rfl⟩, hok6, Hp.le_trans hR4 hR5, hB.outs _ _ _ hjn, hnx, ⟨hmk.l, hmk.c, (show j = n by have hz := hc117; omega) ▸ hmr⟩⟩) (by dsimp only; omega) (eC rfl (eC rfl (eC rfl (eC rfl (eC rfl (eC rfl (eC rfl (eC rfl eN)))))))) rfl sb_
 try simp only [dx] at hc44
 refine QL (hK16 _ _ _ ?_)
 refine Ql eN ?_
 refine Qd fun K48 hK48 => Qc (Ps (Qe (hK48 _ _ _ (Qi (hret _ _ _ ?_)))))
 refine Ea results4 (.cons (Qh rfl) .nil) [] (by first | exact hR1 | exact Hp.le_trans hR1 hR4 | exact Hp.le_refl _) ?_
 rfl
theorem Qfl (i : Int) : ∀ (es : List Ent) (r : MS × List OC), ∃ os, (es.foldl (XI i) r).2 = r.2 ++ os ∧ os.length = (YI es).length ∧ (∀ o ∈ os, o.node = i ∧ r.1.ap < o.index ∧ o.index ≤ r.1.ap + es.length ∧ ∃ e ∈ es, o.term = e.1) ∧ os.Pairwise (fun a b => a.index < b.index)
 | [], r => ⟨[], by simp, rfl, fun o ho => (by cases ho), List.Pairwise.nil⟩
 | e :: es, r => by
  obtain ⟨os, h1, h2, h3, h4⟩ := Qfl i es (XI i r e)
  rw [List.foldl_cons]
  unfold XI at h1 h3 ⊢
  by_cases h : e.2 = []
  ·rw [if_pos h] at h1 h3 ⊢
   refine ⟨os, h1, by rw [h2]; simp [YI, h], fun o ho => ?_, h4⟩
   obtain ⟨a1, a2, a3, e', a4, a5⟩ := h3 o ho
   dsimp only at a2 a3
   refine ⟨a1, by omega, by rw [List.length_cons]; omega, e', List.mem_cons_of_mem _ a4, a5⟩
  ·rw [if_neg h] at h1 h3 ⊢
   dsimp only at h1 h3
   refine ⟨_ :: os, by rw [h1, List.append_assoc]; rfl, by rw [List.length_cons, h2]; simp [YI, h], fun o ho => ?_, List.pairwise_cons.2 ⟨fun o ho => ?_, h4⟩⟩
   ·rcases List.mem_cons.1 ho with rfl | ho
    ·exact ⟨rfl, by dsimp only; omega, by rw [List.length_cons]; dsimp only; omega, e, by simp, rfl⟩
    ·obtain ⟨a1, a2, a3, e', a4, a5⟩ := h3 o ho
     exact ⟨a1, by omega, by rw [List.length_cons]; omega, e', List.mem_cons_of_mem _ a4, a5⟩
   ·obtain ⟨a1, a2, _⟩ := h3 o ho
    dsimp only
    omega
def cn (os : List OC) (i : Int) : Nat := (os.filter fun o => decide (o.node = i)).length
theorem QfC (a b : List OC) (i : Int) : cn (a ++ b) i = cn a i + cn b i := by simp [cn]
theorem Qno {os : List OC} {i : Int} (h : ∀ o ∈ os, o.node = i) : cn os i = os.length := by
 unfold cn
 rw [List.filter_eq_self.2 (fun o ho => by simpa using h o ho)]
theorem Qh4 {os : List OC} {i : Int} (h : ∀ o ∈ os, ¬ o.node = i) : cn os i = 0 := by
 unfold cn
 rw [List.filter_eq_nil_iff.2 (fun o ho => by simpa using h o ho)]
 rfl
structure EvM (i : Nat) (m m' : MS) (os : List OC) : Prop where
 ap : m.ap ≤ m'.ap
 bs : m.x.g.base ≤ m'.x.g.base
 tm : m.x.g.term ≤ m'.x.g.term
 at_ : ∀ o ∈ os, o.node = (i : Int) → m.ap < o.index ∧ o.index ≤ m'.ap ∧ o.term ≤ m'.x.g.term
 cn : m.l.length + cn os i ≤ m'.l.length
 eq : m'.x.g.base ≤ 0 → m.l.length + V.cn os i = m'.l.length
structure Evo (n : Nat) (G G' : GS) (os : List OC) : Prop where
 out : G'.out = G.out ++ os
 inc : os.Pairwise (fun a b => a.node = b.node → a.index < b.index)
 nd : ∀ o ∈ os, ∃ i : Nat, o.node = (i : Int) ∧ i < n
 ms : ∀ i m, G.ms[i]? = some m → ∃ m', G'.ms[i]? = some m' ∧ EvM i m m' os
theorem EvM.same {i : Nat} {m m' : MS} {os : List OC} (ha : m'.ap = m.ap) (hl : m'.l = m.l) (hb : m.x.g.base ≤ m'.x.g.base) (ht : m.x.g.term ≤ m'.x.g.term) (ho : ∀ o ∈ os, ¬ o.node = (i : Int)) : EvM i m m' os :=
 ⟨by omega, hb, ht, fun o h1 h2 => absurd h2 (ho o h1), by rw [Qh4 ho, hl]; omega, fun _ => by rw [Qh4 ho, hl]; omega⟩
theorem Evo.rfl' {n : Nat} {G G' : GS} (ho : G'.out = G.out) (hm : G'.ms = G.ms) : Evo n G G' [] :=
 ⟨by rw [ho]; simp, List.Pairwise.nil, fun o h => (by cases h), fun i m h => ⟨m, by rw [hm]; exact h, EvM.same rfl rfl (Int.le_refl _) (Int.le_refl _) (fun o h => by cases h)⟩⟩
theorem Evo.trans {n : Nat} {G G' G2 : GS} {os ps : List OC} (h : Evo n G G' os) (k : Evo n G' G2 ps) (hn : G.ms.length = n) : Evo n G G2 (os ++ ps) where
 out := by rw [k.out, h.out, List.append_assoc]
 inc := List.pairwise_append.2 ⟨h.inc, k.inc, fun a ha b hb e => by
  obtain ⟨i, e1, e2⟩ := h.nd a ha
  obtain ⟨m', h1, h2⟩ := h.ms i _ (List.getElem?_eq_getElem (show i < G.ms.length by omega))
  obtain ⟨m2, h3, h4⟩ := k.ms i m' h1
  have h5 := (h2.at_ a ha e1).2.1
  have h6 := (h4.at_ b hb (by rw [← e, e1])).1
  omega⟩
 nd := fun o ho => (List.mem_append.1 ho).elim (h.nd o) (k.nd o)
 ms := fun i m hm => by
  obtain ⟨m', h1, h2⟩ := h.ms i m hm
  obtain ⟨m2, h3, h4⟩ := k.ms i m' h1
  refine ⟨m2, h3, Int.le_trans h2.ap h4.ap, Int.le_trans h2.bs h4.bs, Int.le_trans h2.tm h4.tm, fun o ho e => ?_, ?_, fun hb => ?_⟩
  ·rcases List.mem_append.1 ho with ho | ho
   ·obtain ⟨a1, a2, a3⟩ := h2.at_ o ho e
    have := h4.ap
    have := h4.tm
    exact ⟨a1, by omega, by omega⟩
   ·obtain ⟨a1, a2, a3⟩ := h4.at_ o ho e
    have := h2.ap
    exact ⟨by omega, a2, a3⟩
  ·have := h2.cn
   have := h4.cn
   rw [QfC]; omega
  ·have h5 := h4.eq hb
   have h6 := h2.eq (by have := h4.bs; omega)
   rw [QfC]; omega
theorem Qaj {n i N : Nat} {T I : Int} {Δ : GH} {G : GS} {m m1 : MS} (hm : G.ms[i]? = some m) (hi : i < n) (ms : MemS n Δ i m1) (mi : MI T I N i n m1) (hd : m1.dn = false) (hl : m1.l = m.l) (ha : m1.ap = m.ap) (hb : m.x.g.base ≤ m1.x.g.base) (ht : m.x.g.term ≤ m1.x.g.term) (msgs : List Msg) : ∃ os, Evo n G (G.done i m1 msgs) os := by
 have u : MU T I N i n m1 := by
  rcases mi.st with u | d
  ·exact u
  ·rw [YH d.1] at hd; cases hd
 obtain ⟨F, hF, hlF⟩ := ms.up (by rw [hd]; decide)
 have hcm := u.ub.inn.commit
 have hag := hF.lo.ag
 have hb0 := hag.b0
 have hbl := hag.b
 have hla := hag.last
 have hap := u.ap
 have hml := mi.l
 obtain ⟨q1, q2, q3, q4⟩ := zh m1
 have e : Xh i m1 G.out = m1.rest.todo.foldl (XI i) (m1.rest, G.out) := by unfold Xh; rw [if_neg (by rw [hd]; decide)]
 obtain ⟨os, o1, o2, o3, o4⟩ := Qfl i m1.rest.todo (m1.rest, G.out)
 have ef := Qb3 i m1.rest.todo (m1.rest, G.out)
 rw [← e] at o1 ef
 have htd : ∀ x ∈ m1.rest.todo, x ∈ F := fun x hx => by
  unfold MS.todo at hx
  have h1 := List.mem_of_mem_drop (List.mem_of_mem_take hx)
  rw [q1, hag.all] at h1
  exact List.mem_of_mem_drop h1
 -- what it starts from
 have hr : m1.l.length ≤ m1.rest.l.length ∧ m1.ap ≤ m1.rest.ap ∧ (m1.x.g.base ≤ 0 → m1.rest.l = m1.l) := by
  unfold MS.rest
  split
  ·rename_i h1
   refine ⟨?_, by dsimp only; omega, fun h2 => by omega⟩
   dsimp only
   rw [hF.lo.st (by omega), hlF]
   exact (QjA (List.take_prefix_take_left (by omega))).length_le
  ·exact ⟨Nat.le_refl _, Int.le_refl _, fun _ => rfl⟩
 have hme : ∀ (j : Nat), (G.ms.set i (Xh i m1 G.out).1)[j]? = if i = j then (if i < G.ms.length then some (Xh i m1 G.out).1 else none) else G.ms[j]? := fun j => by rw [List.getElem?_set]
 have hnode : ∀ o ∈ os, o.node = (i : Int) := fun o ho => (o3 o ho).1
 refine ⟨os, o1, List.Pairwise.imp (S := fun a b : OC => a.node = b.node → a.index < b.index) (fun h _ => h) o4, fun o ho => ⟨i, hnode o ho, hi⟩, fun j mj hmj => ?_⟩
 show ∃ m', (G.ms.set i (Xh i m1 G.out).1)[j]? = some m' ∧ _
 rw [hme]
 by_cases hij : i = j
 ·subst hij
  rw [hm] at hmj
  obtain rfl := Option.some.inj hmj
  rw [if_pos rfl, if_pos (List.getElem?_eq_some_iff.1 hm).1]
  refine ⟨_, rfl, ?_⟩
  have hx : (Xh i m1 G.out).1.x = m1.x := (yx i m1 G.out).1
  have hA : (Xh i m1 G.out).1.ap = m1.rest.ap + m1.rest.todo.length := by rw [ef]
  have hL : (Xh i m1 G.out).1.l.length = m1.rest.l.length + os.length := by rw [ef, o2]; simp
  have hc := Qno hnode
  refine ⟨by omega, by rw [hx]; exact hb, by rw [hx]; exact ht, fun o ho _ => ?_, by rw [← hl]; omega, fun h0 => ?_⟩
  ·obtain ⟨_, a2, a3, e', a4, a5⟩ := o3 o ho
   dsimp only at a2 a3
   refine ⟨by omega, by omega, ?_⟩
   rw [hx, a5]
   exact hF.lo.tm e' (htd e' a4)
  ·rw [hx] at h0
   have := hr.2.2 h0
   rw [this] at hL
   rw [← hl]; omega
 ·rw [if_neg hij]
  exact ⟨mj, hmj, EvM.same rfl rfl (Int.le_refl _) (Int.le_refl _) (fun o ho e => hij (by have := hnode o ho; omega))⟩
theorem Qkq {n c d : Nat} {Γ : GH} {G : GS} (h : SafeI n Γ G) (hj : SJ11 n (c + 1) (d + 1) G) {i : Nat} (hi : i < n) : ∃ os, Evo n G (G.tick i) os := by
 obtain ⟨⟨a, t, I, ha, ht, g⟩, hl⟩ := hj
 have hI := g.I
 obtain ⟨m, hm⟩ := g.mem hi
 rw [zd hm]
 have mi := g.ms i m hm
 have hh := hl m (List.mem_of_getElem? hm)
 obtain ⟨J, b1, b2, b3, b4, b5⟩ := mi.tick (by omega) (by omega)
 have ms := h.ms i m hm
 have u := mi.up hh
 obtain ⟨F, hF, _⟩ := ms.up (by rw [u.dn]; decide)
 have ht2 := Qif (D := m.D) h.hi hF u.ub u.id u.n mi.out u.sd (by omega) (by omega)
 have hlt := u.ub.inn.tickP
 obtain ⟨Δ, s1, s2, s3, s4⟩ := zi (f := tickN) h.hi mi u ms ht2.1 ht2.2 hlt.tr hlt.inn.commit.2 hlt.inn.down
 obtain ⟨D', hD', e⟩ := Qie mi hh (by omega) (by omega)
 have s3 : MemS n Δ i m.tick.1 := s3
 rw [e] at b3 s3 ⊢
 have htr := hlt.tr
 exact Qaj hm hi s3 b3 (b3.up hD').dn rfl rfl htr.base (by have := htr.vr; show m.x.g.term ≤ m.x.tickP.g.term; omega) _
theorem Qb6 {n : Nat} (G : GS) (k : Int) : Evo n G (G.take k) [] := Evo.rfl' rfl rfl
theorem QgO {n c d : Nat} {Γ : GH} {G : GS} (h : SafeI n Γ G) (hj : SJ11 n (c + 1) d G) (k : Int) : ∃ os, Evo n G (G.deliver k) os := by
 obtain ⟨⟨a, t, I, ha, ht, g⟩, hl⟩ := hj
 have hI := g.I
 unfold GS.deliver
 split
 ·rename_i hb
  have hmb := g.msg _ (qV hb)
  have hmi := h.msg _ (qV hb)
  split
  ·split
   ·exact ⟨[], Qb6 G k⟩
   ·rename_i m hm
    have mi := g.ms _ m hm
    have hh := hl m (List.mem_of_getElem? hm)
    obtain ⟨J, b1, b2, b3, b4, b5⟩ := mi.recv hmb (by omega) (by omega) (by omega)
    have ms := h.ms _ m hm
    have u := mi.up hh
    obtain ⟨F, hF, _⟩ := ms.up (by rw [u.dn]; decide)
    have ht2 := QiC (D := m.D) h.hi hF u.ub u.id u.n mi.out u.sd hmi hmb (by omega) (by omega) (by omega)
    have hlt := u.ub.inn.receiveP hmb.ln
    obtain ⟨Δ, s1, s2, s3, s4⟩ := zi (f := fun s => Xk s (atM G.st k).2) h.hi mi u ms ht2.1 ht2.2 hlt.tr hlt.inn.commit.2 hlt.inn.down
    obtain ⟨D', hD', e⟩ := QiB mi hh hmb (by omega) (by omega) (by omega)
    have s3 : MemS n Δ (atM G.st k).2.to.toNat (m.recv (atM G.st k).2).1 := s3
    rw [e] at b3 s3 ⊢
    have htr := hlt.tr
    have hil := (List.getElem?_eq_some_iff.1 hm).1
    obtain ⟨os, ho⟩ := Qaj (G := G.take k) hm (by rw [g.len.1] at hil; exact hil) s3 b3 (b3.up hD').dn rfl rfl htr.base (by have := htr.vr; show m.x.g.term ≤ (m.x.receiveP (atM G.st k).2).g.term; omega) (m.x.receiveP (atM G.st k).2).out
    exact ⟨_, (Qb6 G k).trans ho g.len.1⟩
  ·exact ⟨[], Qb6 G k⟩
 ·exact ⟨[], Evo.rfl' rfl rfl⟩
theorem Qkr {n c d : Nat} {Γ : GH} {G : GS} (h : SafeI n Γ G) (hj : SJ11 n (c + 1) (d + 1) G) {i : Nat} (hi : i < n) {cmd : Bs} (hc : cmd.length ≤ 100) : ∃ os, Evo n G (G.propose i cmd).2 os := by
 obtain ⟨⟨a, t, I, ha, ht, g⟩, hl⟩ := hj
 have hI := g.I
 obtain ⟨m, hm⟩ := g.mem hi
 rw [zg hm]
 have mi := g.ms i m hm
 have hh := hl m (List.mem_of_getElem? hm)
 obtain ⟨J, b1, b2, b3, b4, b5⟩ := mi.prop hc (by omega) (by omega)
 have ms := h.ms i m hm
 have u := mi.up hh
 obtain ⟨D', hD', e⟩ := QiN mi hh hc (by omega) (by omega)
 by_cases hr : m.x.role = 2
 ·obtain ⟨F, hF, _⟩ := ms.up (by rw [u.dn]; decide)
  have ht2 := QgS (D := m.D) (cmd := cmd) h.hi hF u.ub u.id u.n mi.out u.sd hr hc (by omega) (by omega)
  have hlt := u.ub.inn.entryP hr hc
  obtain ⟨P, hfx, hbad⟩ := ht2.1
  have ep := QaS mi u hr hfx
  obtain ⟨Δ, s1, s2, s3, s4⟩ := zi (f := fun s => QQ s cmd) h.hi mi u ms ⟨P, hfx, hbad⟩ ht2.2 hlt.tr hlt.inn.commit.2 hlt.inn.down
  rw [← ep] at s3
  have htr := hlt.tr
  have hps : (m.propS cmd).2.1 = { m with x := (m.x.entryP cmd).q } := by unfold MS.propS; rw [if_pos hr]
  rw [e] at b3 s3 ⊢
  dsimp only at b3 s3 ⊢
  exact Qaj hm hi s3 b3 (b3.up hD').dn (by rw [hps]) (by rw [hps]) (by show m.x.g.base ≤ (m.propS cmd).2.1.x.g.base; rw [hps]; exact htr.base) (by show m.x.g.term ≤ (m.propS cmd).2.1.x.g.term; rw [hps]; have := htr.vr; show m.x.g.term ≤ (m.x.entryP cmd).g.term; omega) _
 ·have ep : m.prop cmd = ((0, 0), (m, [])) := by rw [jD hr, mi.act0]
  rw [ep]
  exact Qaj hm hi ms mi u.dn rfl rfl (Int.le_refl _) (Int.le_refl _) []
theorem Qks {n c d : Nat} {G : GS} (hj : SJ11 n (c + 1) d G) {i : Nat} (hi : i < n) : ∃ os, Evo n G (G.compact i).2 os := by
 obtain ⟨⟨a, t, I, ha, ht, g⟩, hl⟩ := hj
 obtain ⟨m, hm⟩ := g.mem hi
 have mi := g.ms i m hm
 have hh := hl m (List.mem_of_getElem? hm)
 obtain ⟨D', hD', e⟩ := Qjh mi hh
 rw [zl hm, e]
 refine ⟨[], by simp, List.Pairwise.nil, fun o h => (by cases h), fun j mj hmj => ?_⟩
 show ∃ m', (G.ms.set i { m.compS.2 with D := D' })[j]? = some m' ∧ _
 rw [List.getElem?_set]
 by_cases hij : i = j
 ·subst hij
  rw [hm] at hmj
  obtain rfl := Option.some.inj hmj
  rw [if_pos rfl, if_pos (List.getElem?_eq_some_iff.1 hm).1]
  refine ⟨_, rfl, ?_⟩
  have hx : m.compS.2.ap = m.ap ∧ m.compS.2.l = m.l ∧ m.x.g.base ≤ m.compS.2.x.g.base ∧ m.x.g.term ≤ m.compS.2.x.g.term := by
   unfold MS.compS
   split
   ·exact ⟨rfl, rfl, Int.le_refl _, Int.le_refl _⟩
   ·exact ⟨rfl, rfl, by show m.x.g.base ≤ m.ap; omega, Int.le_refl _⟩
  exact EvM.same hx.1 hx.2.1 hx.2.2.1 hx.2.2.2 (fun o h => by cases h)
 ·rw [if_neg hij]
  exact ⟨mj, hmj, EvM.same rfl rfl (Int.le_refl _) (Int.le_refl _) (fun o h => by cases h)⟩
def EvG (n : Nat) (G G' : GS) : Prop := ∃ os, Evo n G G' os
theorem EvG.trans {n : Nat} {G G' G2 : GS} (h : EvG n G G') (k : EvG n G' G2) (hn : G.ms.length = n) : EvG n G G2 := by
 obtain ⟨os, h⟩ := h
 obtain ⟨ps, k⟩ := k
 exact ⟨_, h.trans k hn⟩
theorem QbK {n i : Nat} (hi : i < n) {G : GS} : ∀ {k c d : Nat}, SJ11 n (c + k) (d + k) G → SJ11 n c d (G.tickN i k)
 | 0, _, _, hj => hj
 | k + 1, c, d, hj => (SJ11.tick (QbK hi (k := k) (c := c + 1) (d := d + 1) (by rw [show c + 1 + k = c + (k + 1) by omega, show d + 1 + k = d + (k + 1) by omega]; exact hj)) hi).1
theorem QcZ {n : Nat} {G : GS} : ∀ {k c d : Nat}, SJ11 n (c + k) d G → SJ11 n c d (G.delN k)
 | 0, _, _, hj => hj
 | k + 1, c, d, hj => (SJ11.del (QcZ (k := k) (c := c + 1) (d := d) (by rw [show c + 1 + k = c + (k + 1) by omega]; exact hj))).1
theorem QdU {n i : Nat} (hi : i < n) {Γ : GH} {G : GS} (h : SafeI n Γ G) : ∀ {k c d : Nat}, SJ11 n (c + k) (d + k) G → EvG n G (G.tickN i k)
 | 0, _, _, _ => ⟨[], Evo.rfl' rfl rfl⟩
 | k + 1, c, d, hj => by
  have hj1 : SJ11 n (c + 1 + k) (d + 1 + k) G := by rw [show c + 1 + k = c + (k + 1) by omega, show d + 1 + k = d + (k + 1) by omega]; exact hj
  obtain ⟨Δ, _, hs⟩ := jf hi h (k := k) (c := c + 1) (d := d + 1) hj1.1
  exact (QdU hi h (k := k) hj1).trans (Qkq hs (QbK hi hj1) hi) ((bud n).ln _ _ _ hj.1)
theorem Qfr {n : Nat} {Γ : GH} {G : GS} (h : SafeI n Γ G) : ∀ {k c d : Nat}, SJ11 n (c + k) d G → EvG n G (G.delN k)
 | 0, _, _, _ => ⟨[], Evo.rfl' rfl rfl⟩
 | k + 1, c, d, hj => by
  have hj1 : SJ11 n (c + 1 + k) d G := by rw [show c + 1 + k = c + (k + 1) by omega]; exact hj
  obtain ⟨Δ, _, hs⟩ := Qaf h (k := k) (c := c + 1) (d := d) hj1.1
  exact (Qfr h (k := k) hj1).trans (QgO hs (QcZ hj1) 0) ((bud n).ln _ _ _ hj.1)
theorem Qmg {n c d : Nat} {Γ : GH} {G : GS} {e : Ev} (hn : 0 < n) (hb : e.Bd) (hs : e.sm) (h6 : ¬ e.what = 6) (h7 : ¬ e.what = 7) (hj : SJ11 n (c + 60) (d + 60) G) (h : SafeI n Γ G) : EvG n G (G.doE n e) ∧ Hl (G.doE n e) := by
 have hi := Qeb e.i (n := n) (by omega)
 have hil : (idx e.i n).toNat < n := by omega
 have h1 : SJ11 n (c + 1) (d + 1) G := hj.leq (by omega) (by omega)
 have h0 : SJ11 n (c + 1) d G := hj.leq (by omega) (by omega)
 unfold GS.doE GS.does
 split
 ·rename_i hw
  have := hs.n (.inl hw)
  have hk : SJ11 n (c + e.n.toNat) (d + e.n.toNat) G := hj.leq (by omega) (by omega)
  exact ⟨QdU hil h hk, (QbK hil hk).2⟩
 ·split
  ·exact ⟨QgO h h0 _, (SJ11.del h0).1.2⟩
  ·split
   ·exact ⟨⟨[], Evo.rfl' rfl rfl⟩, h0.2⟩
   ·split
    ·split
     ·refine ⟨⟨[], Evo.rfl' ?_ ?_⟩, ?_⟩
      ·unfold GS.twice; repeat (first | rfl | split)
      ·unfold GS.twice; repeat (first | rfl | split)
      ·have : (G.twice (G.place e)).ms = G.ms := by unfold GS.twice; repeat (first | rfl | split)
       intro m hm; rw [this] at hm; exact h0.2 m hm
     ·exact ⟨⟨[], Evo.rfl' rfl rfl⟩, h0.2⟩
    ·split
     ·exact ⟨Qkr h h1 hil hs.text, (SJ11.prop h1 hil hs.text).1.2⟩
     ·split
      ·exact ⟨Qks h0 hil, (SJ11.comp h0 hil).1.2⟩
      ·split
       ·rename_i hw
        have := hs.n (.inr hw)
        have hk : SJ11 n (c + e.n.toNat) d G := hj.leq (by omega) (by omega)
        exact ⟨Qfr h hk, (QcZ hk).2⟩
       ·exact ⟨⟨[], Evo.rfl' rfl rfl⟩, h0.2⟩
theorem QbZ {la : Int → Int} {l : List OC} {i x : Int} (h : la i < x) : ∀ k, (∀ j o, j < k → l[j]? = some o → o.node = i → o.index < x) → ZY la l k i < x
 | 0, _ => h
 | k + 1, hk => by
  have ih := QbZ h k (fun j o hj => hk j o (by omega))
  cases ho : l[k]? with
  | none => show (match l[k]? with | some o => _ | none => _ : Int → Int) i < x; rw [ho]; exact ih
  | some o =>
   rw [Qcw ho]
   unfold qH
   split
   ·rename_i e; exact hk k o (by omega) ho e.symm
   ·exact ih
theorem zm {co : Int → Int} {l : List OC} {i : Int} : ∀ k, Zt co l k i = co i + cn (l.take k) i
 | 0 => by simp [Zt, cn]
 | k + 1 => by
  have ih := zm (co := co) (l := l) (i := i) k
  cases ho : l[k]? with
  | none =>
   have e1 : Zt co l (k + 1) = Zt co l k := by show (match l[k]? with | some o => _ | none => _ : Int → Int) = _; rw [ho]
   rw [e1, ih, List.take_add_one, ho]; simp
  | some o =>
   rw [QdZ ho, List.take_add_one, ho, QfC]
   unfold qH
   split
   ·rename_i e
    subst e
    rw [ih]
    simp [cn]; omega
   ·rename_i e
    rw [ih, show cn (some o).toList i = 0 from Qh4 (fun o' ho' => by simp at ho'; subst ho'; exact fun e' => e e'.symm)]
    simp
theorem jC {re : Int → Bool} {G : GS} {i : Int} : ∀ k, qw re G k i = false → re i = false ∧ ∀ j : Nat, j < k → (j : Int) = i → ∀ m, G.ms[j]? = some m → m.x.g.base ≤ 0
 | 0, h => ⟨h, fun j hj => by omega⟩
 | k + 1, h => by
  cases hm : G.ms[k]? with
  | none =>
   have e1 : qw re G (k + 1) = qw re G k := by show (match G.ms[k]? with | some o => _ | none => _ : Int → Bool) = _; rw [hm]
   rw [e1] at h
   obtain ⟨h1, h2⟩ := jC k h
   refine ⟨h1, fun j hj e m hmj => ?_⟩
   by_cases hjk : j = k
   ·subst hjk; rw [hm] at hmj; cases hmj
   ·exact h2 j (by omega) e m hmj
  | some m0 =>
   rw [QdD hm] at h
   by_cases hb : m0.x.g.base > 0
   ·rw [if_pos hb] at h
    unfold qH at h
    split at h
    ·cases h
    ·rename_i hne
     obtain ⟨h1, h2⟩ := jC k h
     exact ⟨h1, fun j hj e m hmj => h2 j (by omega) e m hmj⟩
   ·rw [if_neg hb] at h
    obtain ⟨h1, h2⟩ := jC k h
    refine ⟨h1, fun j hj e m hmj => ?_⟩
    by_cases hjk : j = k
    ·subst hjk; rw [hm] at hmj; obtain rfl := Option.some.inj hmj; omega
    ·exact h2 j (by omega) e m hmj
structure SeenO (la co : Int → Int) (re : Int → Bool) (i : Nat) (m : MS) : Prop where
 la : la i ≤ m.ap
 co0 : 0 ≤ co i
 cu : co i ≤ m.l.length
 re : re i = false → m.x.g.base ≤ 0 ∧ co i = m.l.length
structure SO (n : Nat) (G : GS) (la co : Int → Int) (re : Int → Bool) : Prop where
 safe : ∃ Γ, SafeI n Γ G
 hl : Hl G
 out : G.out = []
 ms : ∀ i m, i < n → G.ms[i]? = some m → SeenO la co re i m
theorem Qba {n c d : Nat} {G : GS} {la co : Int → Int} {re : Int → Bool} {e : Ev} (hn : 0 < n) (hb : e.Bd) (hs : e.sm) (h6 : ¬ e.what = 6) (h7 : ¬ e.what = 7) (hj : GJ n (c + 60) (d + 60) G) (h : SO n G la co re) :
  ∃ G1 os, G1 = G.doE n e ∧ (∃ Γ, SafeI n Γ G1) ∧ Hl G1 ∧ G1.out = os ∧ Evo n G G1 os ∧ G1.ms.length = n ∧ ∀ i m', i < n → G1.ms[i]? = some m' → m'.l.length ≤ 9400 ∧ ∃ m, G.ms[i]? = some m ∧ EvM i m m' os ∧ SeenO la co re i m := by
 obtain ⟨Γ, hG⟩ := h.safe
 obtain ⟨⟨os, ho⟩, hl⟩ := Qmg hn hb hs h6 h7 ⟨hj, h.hl⟩ hG
 obtain ⟨Δ, _, hD⟩ := Qi1 hn hb hs hj hG
 have hj1 := (bud n).doE hn hb hs hj
 have hln := (bud n).ln _ _ _ hj
 refine ⟨_, os, rfl, ⟨Δ, hD⟩, hl, by rw [ho.out, h.out]; rfl, ho, (bud n).ln _ _ _ hj1, fun i m' hi hm' => ⟨?_, ?_⟩⟩
 ·obtain ⟨a, t, I, ha, ht, g⟩ := hj1
  have mi := g.ms i m' hm'
  have := g.I
  have := mi.l.1
  have := mi.ap
  omega
 ·obtain ⟨m, hm⟩ : ∃ m, G.ms[i]? = some m := ⟨_, List.getElem?_eq_getElem (by omega)⟩
  obtain ⟨m2, h1, h2⟩ := ho.ms i m hm
  rw [hm'] at h1
  obtain rfl := Option.some.inj h1
  exact ⟨m, hm, h2, h.ms i m hi hm⟩
theorem Qh3 (l : List OC) (k : Nat) (i : Int) : cn (l.take k) i ≤ cn l i := by
 unfold cn
 exact ((List.take_sublist k l).filter _).length_le
theorem Qm5 {n : Nat} (hn : 1 ≤ n ∧ n ≤ 9) : OutsOK n (GJ n) (SO n) where
 init := ⟨⟨GH.new, SafeI.new n⟩, (SJ11.new hn).2, rfl, fun i m hi hm => by
  simp [GS.new, hi] at hm
  subst hm
  exact ⟨Int.le_refl _, Int.le_refl _, Int.le_refl _, fun _ => ⟨Int.le_refl _, rfl⟩⟩⟩
 tell := fun G la co re e c d hb hs h6 h7 hj h k o ho => by
  obtain ⟨G1, os, e1, h1, h2, h3, h4, h5, h6⟩ := Qba (by omega) hb hs h6 h7 hj h
  rw [← e1] at ho ⊢
  rw [h3] at ho ⊢
  obtain ⟨i, hi1, hi2⟩ := h4.nd o (List.mem_of_getElem? ho)
  obtain ⟨m', hm'⟩ : ∃ m, G1.ms[i]? = some m := ⟨_, List.getElem?_eq_getElem (by omega)⟩
  obtain ⟨_, m, hm, hv, hs⟩ := h6 i m' hi2 hm'
  obtain ⟨a1, a2, a3⟩ := hv.at_ o (List.mem_of_getElem? ho) hi1
  have hla := hs.la
  refine ⟨i, m', hi2, hi1, hm', QbZ (by rw [hi1]; omega) k (fun j o' hj' ho' he => ?_), a2, a3⟩
  obtain ⟨p1, p2⟩ := List.getElem?_eq_some_iff.1 ho'
  obtain ⟨q1, q2⟩ := List.getElem?_eq_some_iff.1 ho
  have := List.pairwise_iff_getElem.1 h4.inc j k p1 q1 hj'
  rw [p2, q2] at this
  exact this he
 cnt := fun G la co re e c d hb hs h6 h7 hj h k i hi => by
  obtain ⟨G1, os, e1, h1, h2, h3, h4, h5, h6⟩ := Qba (by omega) hb hs h6 h7 hj h
  rw [← e1, h3]
  obtain ⟨m', hm'⟩ : ∃ m, G1.ms[i]? = some m := ⟨_, List.getElem?_eq_getElem (by omega)⟩
  obtain ⟨hb, m, hm, hv, hs⟩ := h6 i m' hi hm'
  rw [zm]
  have := hs.cu
  have := hs.co0
  have := hv.cn
  have := Qh3 os k i
  omega
 had := fun G la co re e c d hb hs h6 h7 hj h i m' hi hm' => by
  obtain ⟨G1, os, e1, h1, h2, h3, h4, h5, h6⟩ := Qba (by omega) hb hs h6 h7 hj h
  rw [← e1] at hm' ⊢
  rw [h3]
  obtain ⟨hb, m, hm, hv, hs⟩ := h6 i m' hi hm'
  rw [zm, List.take_length]
  have := hs.cu
  have := hv.cn
  refine ⟨by omega, fun hr => ?_⟩
  obtain ⟨r1, r2⟩ := jC (i + 1) hr
  have r3 := hv.eq (r2 i (by omega) rfl m' hm')
  have r4 := (hs.re r1).2
  omega
 next := fun G la co re e c d hb hs h6 h7 hj h => by
  obtain ⟨G1, os, e1, h1, h2, h3, h4, h5, h6⟩ := Qba (by omega) hb hs h6 h7 hj h
  rw [← e1, h3]
  obtain ⟨Γ, hG⟩ := h1
  refine ⟨⟨Γ, ⟨hG.hi, hG.ms, hG.msg⟩⟩, h2, rfl, fun i m' hi hm' => ?_⟩
  obtain ⟨hb, m, hm, hv, hs⟩ := h6 i m' hi hm'
  have h7 := hs.cu
  have h8 := hs.co0
  have h9 := hv.cn
  have h10 := hs.la
  have h11 := hv.ap
  refine ⟨?_, by rw [zm]; omega, by rw [zm, List.take_length]; omega, fun hr => ?_⟩
  ·have : ZY la os os.length (i : Int) < m'.ap + 1 := QbZ (by omega) _ (fun j o hj' ho he => by have := (hv.at_ o (List.mem_of_getElem? ho) he).2.1; omega)
   omega
  ·obtain ⟨r1, r2⟩ := jC n hr
   have r0 := r2 i hi rfl m' hm'
   have r3 := hv.eq r0
   have r4 := (hs.re r1).2
   exact ⟨r0, by rw [zm, List.take_length]; omega⟩
def Qb0 (a : Int) : List Int → List Int
 | [] => [a]
 | b :: l => if a ≤ b then a :: b :: l else b :: Qb0 a l
def Qck (l : List Int) : List Int := l.foldr Qb0 []
theorem QaY (a : Int) : ∀ l : List Int, (Qb0 a l).Perm (a :: l)
 | [] => .refl _
 | b :: l => by
  unfold Qb0
  split
  ·exact .refl _
  ·exact ((QaY a l).cons b).trans (.swap a b l)
theorem QdO (a : Int) : ∀ {l : List Int}, l.Pairwise (fun a b => decide (a ≤ b) = true) → (Qb0 a l).Pairwise (fun a b => decide (a ≤ b) = true)
 | [], _ => by simp [Qb0]
 | b :: l, h => by
  unfold Qb0
  rw [List.pairwise_cons] at h
  split
  ·rename_i h1
   refine List.pairwise_cons.2 ⟨fun c hc => ?_, List.pairwise_cons.2 h⟩
   rcases List.mem_cons.1 hc with hc | hc
   ·subst hc; simpa using h1
   ·have := h.1 c hc; simp at *; omega
  ·refine List.pairwise_cons.2 ⟨fun c hc => ?_, QdO a h.2⟩
   rcases List.mem_cons.1 ((QaY a l).mem_iff.1 hc) with hc | hc
   ·subst hc; simp; omega
   ·exact h.1 c hc
theorem QjH (l : List Int) : l.mergeSort (fun a b => decide (a ≤ b)) = Qck l := by
 have h1 := List.mergeSort_perm l (fun a b => decide (a ≤ b))
 have h2 := List.pairwise_mergeSort (le := fun (a b : Int) => decide (a ≤ b)) (fun a b c h1 h2 => by simp at *; omega) (fun a b => by simp; omega) l
 have h3 : (Qck l).Perm l ∧ (Qck l).Pairwise (fun a b => decide (a ≤ b) = true) := by
  unfold Qck
  clear h1 h2
  induction l with
  | nil => exact ⟨.refl _, .nil⟩
  | cons a l ih => exact ⟨(QaY a _).trans (ih.1.cons a), QdO a ih.2⟩
 exact List.Perm.eq_of_pairwise (le := fun (a b : Int) => decide (a ≤ b) = true) (fun a b _ _ h1 h2 => by simp at *; omega) h2 h3.2 (h1.trans h3.1.symm)
def QhJ (x : ND) : Int := (Qck x.reach).getD ((x.n - 1) / 2) 0
def QcL (x : ND) : ND := if QhJ x > x.commit ∧ x.tAt (QhJ x) = x.g.term then { x with commit := QhJ x } else x
theorem QgX : ND.count = QcL := by funext x; unfold ND.count QcL ND.mid QhJ; rw [QjH]
def yk (s : NS) (cmd : Bs) : Bool × NS := QU (QP s (s.1.g.addD s.2 s.1.g.last [(s.1.g.term, cmd)])) fun s => (true, ((QcL s.1).feedAll, s.2))
theorem QgR : QQ = yk := by funext s c; unfold QQ yk; rw [QgX]
def Qg6 (s : NS) : Bool × NS := yk (s.1.wins, s.2) []
theorem QkO : Zs = Qg6 := by funext s; unfold Zs Qg6; rw [QgR]
def QeD (s : NS) : Bool × NS := QU (QP s (s.1.g.setTermD s.2 (s.1.g.term + 1) s.1.id)) fun s =>
 if s.1.n = 1 then Qg6 (s.1.stands, s.2) else (true, (s.1.stands.askAll, s.2))
theorem Qlp : Yh = QeD := by funext s; unfold Yh QeD; rw [QkO]
def Qhd (s : NS) : Bool × NS :=
 if s.1.role = 2 then if s.1.patience + 1 ≥ 3 then (true, ({ s.1 with patience := 0 }.feedAll, s.2)) else (true, ({ s.1 with patience := s.1.patience + 1 }, s.2))
 else if s.1.patience + 1 ≥ Zi s.1.id s.1.g.term then QeD ({ s.1 with patience := s.1.patience + 1 }, s.2) else (true, ({ s.1 with patience := s.1.patience + 1 }, s.2))
theorem QmK : tickN = Qhd := by funext s; unfold tickN Qhd; rw [Qlp]
def Qem (s : NS) (m : Msg) : Bool × NS :=
 if ¬ s.1.role = 1 ∨ ¬ m.term = s.1.g.term ∨ m.ok = false then (true, s)
 else if 2 * ((QW s.1.votes m.frm).length : Int) > s.1.n then Qg6 ({ s.1 with votes := QW s.1.votes m.frm }, s.2)
 else (true, ({ s.1 with votes := QW s.1.votes m.frm }, s.2))
theorem Qld : Yg = Qem := by funext s m; unfold Yg Qem; rw [QkO]
def Qfi (s : NS) (m : Msg) : Bool × NS :=
 if ¬ s.1.role = 2 ∨ ¬ m.term = s.1.g.term then (true, s)
 else
  let to := m.frm.toNat
  if m.ok = false then (true, ((s.1.setPeer to (max (min (s.1.nxt to - 1) (m.index + 1)) (s.1.mat to + 1), s.1.mat to)).feed to, s.2))
  else
   let k := max (s.1.mat to) (min m.index s.1.g.last)
   let x := QcL (s.1.setPeer to (k + 1, k))
   if k + 1 ≤ x.g.last then (true, (x.feed to, s.2)) else (true, (x, s.2))
theorem Ql4 : Yb = Qfi := by funext s m; unfold Yb Qfi; rw [QgX]
def Qea (s : NS) (m : Msg) : Bool × NS :=
 if m.kind = 0 then Zd s m else if m.kind = 1 then Qem s m else if m.kind = 2 ∨ m.kind = 4 then YP s m else if m.kind = 3 then Qfi s m else (true, s)
theorem Qne : Yc = Qea := by funext s m; unfold Yc Qea; rw [Qld, Ql4]
def QbP (s : NS) (m : Msg) : Bool × NS :=
 if ¬ m.to = s.1.id ∨ m.frm = s.1.id ∨ m.frm < 0 ∨ m.frm ≥ s.1.n then (true, s)
 else if m.term > s.1.g.term then QU (QP s (s.1.g.setTermD s.2 m.term (-1))) fun s => Qea (s.1.newTerm, s.2) m
 else Qea s m
theorem QiG : Xk = QbP := by funext s m; unfold Xk QbP; rw [Qne]
def yo (s : NS) (cmd : Bs) : (Int × Int × List Msg) × NS :=
 if ¬ s.1.role = 2 then ((0, 0, []), s) else if Xm (Xn s (fun s => yk s cmd)).2 = true then ((0, 0, []), (Xn s (fun s => yk s cmd)).2)
 else (((Xn s (fun s => yk s cmd)).2.1.g.last, (Xn s (fun s => yk s cmd)).2.1.g.term, (Xn s (fun s => yk s cmd)).1), (Xn s (fun s => yk s cmd)).2)
theorem QiM : Xz = yo := by funext s c; unfold Xz yo; rw [QgR]
def Qcs (m : MS) : MS × List Msg := m.act (Xn (m.x, m.D) Qhd)
def Qct (m : MS) (g : Msg) : MS × List Msg := m.act (Xn (m.x, m.D) (fun s => QbP s g))
def QaV (m : MS) (c : Bs) : (Int × Int) × (MS × List Msg) := (((yo (m.x, m.D) c).1.1, (yo (m.x, m.D) c).1.2.1), m.act ((yo (m.x, m.D) c).1.2.2, (yo (m.x, m.D) c).2))
theorem QlR : MS.tick = Qcs := by funext m; unfold MS.tick Qcs; rw [QmK]
theorem QlT : MS.recv = Qct := by funext m g; unfold MS.recv Qct; rw [QiG]
theorem QlV : MS.prop = QaV := by funext m c; unfold MS.prop QaV; rw [QiM]
def Qfk (G : GS) (i : Nat) : GS := match G.ms[i]? with
 | none => G
 | some m => G.done i (Qcs m).1 (Qcs m).2
theorem Ql7 : GS.tick = Qfk := by funext G i; unfold GS.tick Qfk; rw [QlR]; try rfl
def Qec (G : GS) (k : Int) : GS :=
 if XR G.st k = true then
  if 0 ≤ (atM G.st k).2.to then match G.ms[(atM G.st k).2.to.toNat]? with
   | none => G.take k
   | some m => (G.take k).done (atM G.st k).2.to.toNat (Qct m (atM G.st k).2).1 (Qct m (atM G.st k).2).2
  else G.take k
 else G
theorem Qng : GS.deliver = Qec := by funext G k; unfold GS.deliver Qec; rw [QlT]; try rfl
def Qjb (G : GS) (i : Nat) (c : Bs) : (Int × Int) × GS := match G.ms[i]? with
 | none => ((0, 0), G)
 | some m => ((QaV m c).1, G.done i (QaV m c).2.1 (QaV m c).2.2)
theorem jE : GS.propose = Qjb := by funext G i c; unfold GS.propose Qjb; rw [QlV]; try rfl
def Qdf (G : GS) (k : Nat) : GS := (List.range k).foldl Qfk G
theorem Qkl : GS.ticks = Qdf := by funext G k; unfold GS.ticks Qdf; rw [Ql7]
def QcD (G : GS) : Nat → GS
 | 0 => G
 | k + 1 => if G.st.length > 0 then QcD (Qec G 0) k else G
theorem QdX (G : GS) : ∀ k, G.dels (k + 1) = G.del1.dels k
 | 0 => rfl
 | k + 1 => by
  show (G.dels (k + 1)).del1 = (G.del1.dels k).del1
  rw [QdX G k]
theorem QgL : ∀ (k : Nat) (G : GS), G.dels k = QcD G k
 | 0, G => rfl
 | k + 1, G => by
  unfold QcD
  split
  ·rename_i h
   rw [QdX, QgL k, show G.del1 = Qec G 0 by unfold GS.del1; rw [if_pos h, Qng]]
  ·rename_i h
   rw [Qb9 (k := 0) (by omega) (by show G.st.length = 0; omega)]
   rfl
def Qbj (G : GS) (n : Nat) : GS := QcD (Qdf G n) 200
theorem Qkm : GS.round = Qbj := by funext G n; unfold GS.round Qbj; rw [Qkl, QgL]
def Qb2 (G : GS) (n : Nat) : Nat → GS
 | 0 => G
 | k + 1 => Qbj (Qb2 G n k) n
theorem Zb : ∀ (k : Nat) (G : GS) (n : Nat), G.rounds n k = Qb2 G n k
 | 0, _, _ => rfl
 | k + 1, G, n => by show (G.rounds n k).round n = Qbj (Qb2 G n k) n; rw [Zb k, Qkm]
theorem Qoh : AwOK 1 where
 l1 := by rw [Zb]; decide +kernel
 p := by rw [Zb, jE]; decide +kernel
 t0 := by decide
 l2 := by rw [Zb, Zb, jE]; decide +kernel
 o := by rw [Zb, Zb, jE]; decide +kernel
 d := fun m hm => by
  have h : (((((GS.new 3).rounds 3 60).propose 0 [97]).2.rounds 3 10).ms[0]?).map (fun m => m.l.length) = some 1 := by rw [Zb, Zb, jE]; decide +kernel
  rw [hm] at h; simpa using h
 a := fun m hm => by
  have h : (((((GS.new 3).rounds 3 60).propose 0 [97]).2.rounds 3 10).ms[1]?).map (fun m => m.ap) = some 2 := by rw [Zb, Zb, jE]; decide +kernel
  rw [hm] at h; simpa using h
end V
end Go.Proofs.YtenfjpigffjgmaaGreat
namespace Go.Proofs.YtenfjpigffjgmaaGreat
open Go.ChangeShapes Go.WideShapes Go.ChangeAt Go.RowKit
open V
set_option maxHeartbeats 1000000 in
set_option maxRecDepth 100000 in
theorem GroupOutcomes_holds_lifted (os : Os) (started : os.Started) (H : Type) (enc : TypeId × Value → H) :
  ReturnsInHanded {} Tryz.checked os 4 .any (Rows.groupOutcomesSpec.pre6 enc Tryz.prog Tryz.f4 Rows.groupOutcomesRow.domain false) (Rows.groupOutcomesSpec.post enc Tryz.prog Tryz.f4 false true false false) := by
 refine returnsInHanded_of_change (C := Tryz.checked) own started (by kernel_rfl) Tryz.func4
  (ChangeSpec.witness6 (enc := enc) (C := Tryz.checked) false ⟨#[], #[.int .i64 0, .slice none 0 0], []⟩ 8 (by kernel_rfl) (by kernel_rfl) (by kernel_rfl) (by kernel_rfl)) ?_
 intro W base args ds gs before hval0 hW hcnd _
 have hval : ∀ (j : Nat) t v, Tryz.f4.params[j]? = some t → args[j]? = some v → Value.okWide Tryz.prog W .any base t v := hval0
 have hW' := hW
 obtain ⟨p, q, hA0, hV, rfl, hfz, hnd⟩ := hW
 have hA : DataW.TrodAll enc Tryz.prog W 0 (fun _ => true) true Tryz.f4.params.toList args.toList ds p := hA0
 rw [Tryz.params4] at hA hval
 obtain ⟨v0, vs0, d0, ds0, p0, q0, hargs, rfl, rfl, t0, r0⟩ := trodAll_cons hA
 obtain ⟨v1, vs1, d1, ds1, p1, q1, rfl, rfl, rfl, t1, r1⟩ := trodAll_cons r0
 obtain ⟨rfl, rfl, rfl⟩ := trodAll_nil r1
 obtain rfl : args = #[v0, v1] := by cases args; simp_all
 obtain ⟨rfl, rfl⟩ := trodVars_none hV
 have lt0 : ∀ x ∈ p0, x.block < W.heap.size := by obtain ⟨m, hm⟩ := t0; exact DataW.trod_lt m _ _ _ hm
 obtain ⟨y0, h0⟩ : ∃ y, (zB .i64) (zu W) v0.cells.toList y := by obtain ⟨m, hm⟩ := t0; exact (zU Tryz.underlying3) W m _ _ hm
 obtain ⟨n0, rfl⟩ := okWide_int Tryz.underlying3 (hval 0 3 v0 rfl rfl)
 obtain ⟨e0, h0⟩ := h0
 obtain rfl : y0 = n0 := by have := e0; simp [Value.cells] at this; exact this.symm
 have lt1 : ∀ x ∈ p1, x.block < W.heap.size := by obtain ⟨m, hm⟩ := t1; exact DataW.trod_lt m _ _ _ hm
 obtain ⟨y1, h1⟩ : ∃ y, (QcY 4 (yG 1 (zB .i64) (yG 1 (zB .i64) (yG 1 (zB .i64) Qhg)))) (zu W) v1.cells.toList y := by obtain ⟨m, hm⟩ := t1; exact (QiI Tryz.underlying23 (by kernel_rfl) (by decide) (QeV Tryz.underlying53 (by kernel_rfl) (jc rfl (by kernel_rfl) (zU Tryz.underlying3) (jc rfl (by kernel_rfl) (zU Tryz.underlying3) (jc rfl (by kernel_rfl) (zU Tryz.underlying3) (Qhy rfl (QiH Tryz.underlying9))))))) W m _ _ hm
 obtain ⟨a1, len1, cap1, rfl⟩ := okWide_slice Tryz.underlying23 (hval 1 23 v1 rfl rfl)
 obtain ⟨v1, hv1⟩ : ∃ v, v = Value.slice a1 len1 cap1 := ⟨_, rfl⟩
 replace h1 : (QcY 4 (yG 1 (zB .i64) (yG 1 (zB .i64) (yG 1 (zB .i64) Qhg)))) (zu W) [v1] y1 := by rw [hv1]; exact h1
 clear hA0 hval0
 subst hv1
 refine (Qi0 (QcA (c3 := 10000) (d3 := 1000) (bud 3) ((bud 3).leq (by omega) (by omega) (GJ.new (by decide))) 1 Qoh bud (SS := SO) (fun n hn => Qm5 (by omega)) (c := 80000) (d := 0) (fun n hn => by omega) (fun n hn => (bud n).leq (by omega) (by omega) (GJ.new (by omega))) _ _ y1 h1)).mono fun e W' ⟨he, bel⟩ => ?_
 subst he
 exact ⟨_, rfl, _, _, _, [], _, [], hW', trodAll_mk1 (shut_bool Tryz.underlying4 _), (trodAll_cons_mk (Below.trod QgH (by kernel_rfl) (of_decide_eq_true (by kernel_rfl)) t0 bel lt0) (trodAll_cons_mk (Below.trod QgH (by kernel_rfl) (of_decide_eq_true (by kernel_rfl)) t1 bel lt1) trodAll_mk0)), rfl, bel.frame _, fun h => by cases h⟩
theorem GroupOutcomes_holds : Rows.GroupOutcomesSaid :=
 OpenClaim.holds_of_wide 4 Tryz.f4 rfl rfl rfl rfl rfl rfl rfl ⟨rfl, rfl, rfl, rfl, rfl⟩ rfl rfl rfl rfl rfl (by kernel_rfl) Tryz.func4 (by kernel_rfl)
  (of_decide_eq_true (by kernel_rfl)) (by unfold Func.isWrapper; first | (rw [if_pos (by decide +kernel)]; kernel_rfl) | (rw [if_neg (by decide +kernel)]; exact ⟨rfl, rfl⟩))
  (fun os started H enc _ => GroupOutcomes_holds_lifted os started H enc)
#print axioms GroupOutcomes_holds
end Go.Proofs.YtenfjpigffjgmaaGreat
