/- Regions that draw their order, once more: the operations that do something may come in several orders too; calls among them may panic. -/
import Derived.Test.YtcgjlhhfldkdaaaV10
set_option linter.unusedSimpArgs false
set_option linter.unusedVariables false
namespace Go.Proofs.Ytcgjlhhfldkdaaa
open Go.RowKit
namespace V
def mixSB (ops : Array Oper) (Fs Cs Ts : List Nat) : Bool :=
  lowB ops && ((List.range ops.size).all fun i => Fs.contains i || Cs.contains i || Ts.contains i) && Fs.Nodup && Cs.Nodup && Ts.Nodup &&
  (Fs.all fun i => !looksB ops i i) && (Fs.all fun i => Nat.blt i ops.size && !Cs.contains i && !Ts.contains i) && (Cs.all fun i => Nat.blt i ops.size && !Ts.contains i) && (Ts.all fun i => Nat.blt i ops.size) &&
  pairB ops Fs && (Fs.all fun i => noSel ops i) && (Cs.all fun i => noSel ops i) &&
  (Fs.all fun i => Cs.all fun k => !looksB ops i k && !sameDst ops i k && !sameDst ops k i && (ancB ops ops.size k i || !looksB ops k i)) &&
  (Fs.all fun i => Ts.all fun k => ancB ops ops.size k i) && (Cs.all fun i => Ts.all fun k => ancB ops ops.size k i)
def firstB (ops : Array Oper) (rem : List Nat) (i : Nat) : Bool := rem.all fun j => !ancB ops ops.size i j
/-- a panic, and nothing else -/
def PE (PX : List PanicEntry → World → Prop) : Exit → Act → World → Prop := fun e _ w => ∃ ch, e = .panic ch ∧ PX ch w
section
variable {c : Cx} {ops : Array Oper} {Q : Exit → Act → World → Prop} {R : Hp} {L : List Asn}
def YJ (c : Cx) (ops : Array Oper) (L : List Asn) (PX : List PanicEntry → World → Prop) (X : Env → Hp → List Asn → Prop) (i : Nat) (E : Env) (R : Hp) (G : List Asn) : Prop :=
  ∃ o, ops[i]? = some o ∧ ∀ a w, Fr c.n E a → Sat c.σ R (L ++ G) w →
      if Region.wanted o (yielded ops a.tmps) then o.wp c.P a w (fun a' w' => ∃ u E' R' G', R.le R' ∧ a' = a.put o.dst u ∧ Fr c.n E' a' ∧ Sat c.σ R' (L ++ G') w' ∧ X E' R' G') (PE PX)
      else ∃ E' R' G', R.le R' ∧ Fr c.n E' (a.put o.dst undef) ∧ Sat c.σ R' (L ++ G') w ∧ X E' R' G'
/-- a set of operations, in whatever order they may come -/
def XS (c : Cx) (ops : Array Oper) (L : List Asn) (K : Env → Hp → List Asn → Prop) (PX : List PanicEntry → World → Prop) : Nat → List Nat → Env → Hp → List Asn → Prop
  | 0, _, E, R, G => K E R G
  | n + 1, rem, E, R, G => ∀ i ∈ rem, firstB ops rem i = true → YJ c ops L PX (XS c ops L K PX n (rem.erase i)) i E R G
theorem virt_defers : ∀ (p : List (Nat × Value)) (a : Act), (virt ops a p).defers = a.defers
  | [], _ => rfl
  | (i, v) :: p, a => by
    have := virt_defers p a
    simp only [virt]
    cases h : ((ops[i]?).bind (·.dst)) <;> simp [Act.put, this]
theorem virt_size : ∀ (p : List (Nat × Value)) (a : Act), (virt ops a p).tmps.size = a.tmps.size
  | [], _ => rfl
  | (i, v) :: p, a => by
    have := virt_size p a
    simp only [virt]
    cases h : ((ops[i]?).bind (·.dst)) <;> simp [Act.put, this]
theorem Fr.bare {n : Nat} {a : Act} (h1 : a.tmps.size = n) (h2 : a.defers = []) : Fr n [] a := ⟨h1, h2, fun t v e => by simp [lk] at e⟩
theorem upon_moveP {PX : List PanicEntry → World → Prop} {o : Oper} {V a : Act} {K K' : Act → World → Prop} {r : Result Next} (h : o.upon c.P V K' (PE PX) r) (hk : ∀ u w', K' (V.put o.dst u) w' → K (a.put o.dst u) w')
    (hd : ∀ (q : Deferred) w', ¬ K' (({ V with defers := q :: V.defers } : Act).put o.dst undef) w') (hp : ∀ ch w', PX ch w' → Q (.panic ch) a w') : o.upon c.P a K Q r := by
  cases r with
  | ok n w' =>
    cases n <;> simp only [Oper.upon] at h ⊢ <;> first | exact hk _ _ h | exact (hd _ _ h).elim | exact h.elim | skip
    case enter f args =>
      refine h.mono fun e w'' hh => ?_
      cases e with
      | returned v => exact hk _ _ hh
      | panicked ch => obtain ⟨ch', e, hx⟩ := hh; cases e; exact hp _ _ hx
      | outgrown => obtain ⟨_, _, ch', e, _⟩ := hh; cases e
    case row row args => exact h.mono fun v w'' hh => hk _ _ hh
  | halt x w' =>
    cases x <;> simp only [Oper.upon] at h ⊢
    obtain ⟨ch', e, hx⟩ := h; cases e; exact hp _ _ hx
def MixS (c : Cx) (ops : Array Oper) (Q : Exit → Act → World → Prop) (R : Hp) (L : List Asn) (PX : List PanicEntry → World → Prop) (Fs Cs Ts : List Nat) (fuel : Nat) (listed : Array Bool) (a : Act) (w : World) : Prop :=
  listed.size = ops.size ∧ Closed1 ops listed ∧
  ∃ (pend : List (Nat × Value)) (cs : List Nat) (E : Env) (R1 : Hp) (G : List Asn), R.le R1 ∧ (∀ x ∈ pend, x.1 ∈ Fs) ∧ (pend.map (·.1)).Nodup ∧ ((∀ j ∈ cs, j ∈ Cs) ∧ cs.Nodup) ∧
      XS c ops L (fun E R G => TK c ops Q R Ts (L ++ G) E) PX cs.length cs E R1 G ∧ Fr c.n E (virt ops a pend) ∧ Sat c.σ R1 (L ++ G) w ∧ (∀ x ∈ pend, QK c ops R L x (virt ops a pend)) ∧
      (∀ j, j < ops.size → (listed.getD j false = false ↔ j ∈ pend.map (·.1) ∨ j ∈ cs ∨ j ∈ Ts)) ∧ pend.length + cs.length + Ts.length ≤ fuel
theorem mixS_any {PX : List PanicEntry → World → Prop} (hpan : ∀ ch (a : Act) w, Fr c.n [] a → PX ch w → Q (.panic ch) a w) {Fs Cs Ts : List Nat} (hB : mixSB ops Fs Cs Ts = true) : ∀ (fuel : Nat) (listed : Array Bool) (a : Act) (w : World), MixS c ops Q R L PX Fs Cs Ts fuel listed a w → wpAny c.P .any ops Q fuel listed a w := by
  simp only [mixSB, Bool.and_eq_true, List.all_eq_true, Bool.not_eq_true', Bool.or_eq_true, decide_eq_true_eq] at hB
  obtain ⟨⟨⟨⟨⟨⟨⟨⟨⟨⟨⟨⟨⟨⟨hlow, hcover⟩, hFn⟩, hCn⟩, hTn⟩, hself⟩, hF⟩, hC⟩, hT⟩, hpair⟩, hFs⟩, hCs⟩, hFC⟩, hFT⟩, hCT⟩ := hB
  have hFlt : ∀ i ∈ Fs, i < ops.size := fun i hi => Nat.lt_of_lt_of_le (Nat.lt_succ_self _) (Nat.le_of_ble_eq_true (hF i hi).1.1)
  have hClt : ∀ i ∈ Cs, i < ops.size := fun i hi => Nat.lt_of_lt_of_le (Nat.lt_succ_self _) (Nat.le_of_ble_eq_true (hC i hi).1)
  have hTlt : ∀ i ∈ Ts, i < ops.size := fun i hi => Nat.lt_of_lt_of_le (Nat.lt_succ_self _) (Nat.le_of_ble_eq_true (hT i hi))
  intro fuel
  induction fuel with
  | zero =>
    rintro listed a w ⟨hs, hc, pend, cs, E, R1, G, hR1, hp, hpn, _, hX, hE, hw, hq, hl, hf⟩
    have e1 := List.eq_nil_of_length_eq_zero (l := pend) (by omega)
    have e2 := List.eq_nil_of_length_eq_zero (l := cs) (by omega)
    subst e1 e2
    exact hX 0 listed a w hs hc (fun j hj => (hl j hj).trans (by simp)) (by simpa using hf) hE hw
  | succ fuel ih =>
    rintro listed a w ⟨hs, hc, pend, cs, E, R1, G, hR1, hp, hpn, ⟨hcC, hcn⟩, hX, hE, hw, hq, hl, hf⟩
    by_cases hall : pend = [] ∧ cs = []
    · obtain ⟨rfl, rfl⟩ := hall
      exact hX (fuel + 1) listed a w hs hc (fun j hj => (hl j hj).trans (by simp)) (by simpa using hf) hE hw
    have hpu : ∀ y ∈ pend, listed.getD y.1 false = false := fun y hy => (hl _ (hFlt _ (hp y hy))).2 (.inl (List.mem_map.2 ⟨y, hy, rfl⟩))
    have hcsu : ∀ j ∈ cs, listed.getD j false = false := fun j h => (hl _ (hClt _ (hcC _ h))).2 (.inr (.inl h))
    refine ⟨fun hr => ?_, fun i hi => ?_⟩
    · exfalso
      have : ∃ j, j < ops.size ∧ listed.getD j false = false := by
        cases hpe : pend with
        | cons y p => exact ⟨y.1, hFlt _ (hp y (by rw [hpe]; simp)), hpu y (by rw [hpe]; simp)⟩
        | nil => cases hce : cs with
          | cons k p => exact ⟨k, hClt _ (hcC k (by rw [hce]; simp)), hcsu k (by rw [hce]; simp)⟩
          | nil => exact absurd ⟨hpe, hce⟩ hall
      obtain ⟨j, hj, hu⟩ := this
      obtain ⟨k, hk⟩ := exists_ready hlow hs j hj hu
      rw [hr] at hk; cases hk
    · obtain ⟨h0, o, ho, hdeps⟩ := mem_ready.1 hi
      have hilt : i < ops.size := (Array.getElem?_eq_some_iff.1 ho).1
      have hu : listed.getD i false = false := by
        rw [Array.getD_eq_getD_getElem?] at h0 ⊢
        rw [Array.getElem?_eq_getElem (by omega)] at h0 ⊢
        simpa using h0
      have hanc : ∀ j, ancB ops ops.size i j = true → listed.getD j false = true := fun j hj => anc_listed hc _ i j hj fun o' ho' => by rw [ho] at ho'; cases ho'; exact hdeps
      have hs' : (listed.setIfInBounds i true).size = ops.size := by simpa using hs
      have hc' : Closed1 ops (listed.setIfInBounds i true) := hc.set hs hi
      have hgd : ∀ j, (listed.setIfInBounds i true).getD j false = if j = i then true else listed.getD j false := fun j => set_getD (by omega)
      · skip
        by_cases hip : i ∈ pend.map (·.1)
        · -- one that only looks
          obtain ⟨x, hx, rfl⟩ := List.mem_map.1 hip
          obtain ⟨p1, p2, rfl⟩ := List.append_of_mem hx
          have hxF := hp x hx
          have hnot : ∀ y ∈ p1 ++ p2, y.1 ≠ x.1 := by
            intro y hy he
            simp only [List.map_append, List.map_cons] at hpn
            have hn := List.nodup_append.1 hpn
            rcases List.mem_append.1 hy with h | h
            · exact hn.2.2 y.1 (List.mem_map.2 ⟨y, h, rfl⟩) x.1 (by simp) he
            · have := (List.nodup_cons.1 hn.2.1).1
              exact this (List.mem_map.2 ⟨y, h, he⟩)
          have hsub : ∀ y ∈ p1 ++ p2, y ∈ p1 ++ x :: p2 := fun y hy => by simp at hy ⊢; rcases hy with h | h <;> simp [h]
          have hlook : ∀ y ∈ p1 ++ x :: p2, looksB ops x.1 y.1 = false := by
            intro y hy
            by_cases he : y.1 = x.1
            · rw [he]; exact hself _ hxF
            · rcases (pairB_spec hpair hxF (hp y hy) (Ne.symm he)).1 with h | h
              · exact h
              · have := hanc _ h; rw [hpu y hy] at this; cases this
          have hqa : QK c ops R L x a := QK.unvirt hlook (hq x hx)
          obtain ⟨o', ho', hsel, hqq⟩ := hqa
          rw [ho] at ho'; cases ho'
          have hvt := virt_take (ops := ops) (x := x) p1 p2 a fun y hy e he => not_same (hFlt _ (hp y (hsub y hy))) (pairB_spec hpair (hp y (hsub y hy)) hxF (hnot y hy)).2 e he
          have next : ∀ w', Sat c.σ R1 (L ++ G) w' → wpAny c.P .any ops Q fuel (listed.setIfInBounds x.1 true) (a.put o.dst x.2) w' := by
            intro w' hw'
            have hod : o.dst = dstAt ops x.1 := by simp [dstAt, ho]
            rw [hod]
            refine ih _ _ _ ⟨hs', hc', p1 ++ p2, cs, E, R1, G, hR1, fun y hy => hp y (hsub y hy), ?_, ⟨hcC, hcn⟩, hX, by rw [← hvt]; exact hE, hw', fun y hy => by rw [← hvt]; exact hq y (hsub y hy), fun j hj => ?_, ?_⟩
            · simp only [List.map_append, List.map_cons] at hpn ⊢
              have hn := List.nodup_append.1 hpn
              exact List.nodup_append.2 ⟨hn.1, (List.nodup_cons.1 hn.2.1).2, fun u hu v hv => hn.2.2 u hu v (by simp [hv])⟩
            · rw [hgd]
              by_cases hji : j = x.1
              · rw [if_pos hji]
                simp only [Bool.true_eq_false, false_iff, not_or]
                subst hji
                refine ⟨fun h => ?_, fun h => ?_, fun h => ?_⟩
                · obtain ⟨y, hy, he⟩ := List.mem_map.1 h; exact hnot y hy he
                · have := (hF _ hxF).1.2; simp [hcC _ h] at this
                · have := (hF _ hxF).2; simp [h] at this
              · rw [if_neg hji, hl j hj]
                simp only [List.map_append, List.map_cons, List.mem_append, List.mem_cons]
                constructor
                · rintro ((h | h | h) | h) <;> first | exact absurd h hji | simp [h]
                · rintro ((h | h) | h) <;> simp [h]
            · simp at hf ⊢; omega
          unfold wpOp
          rw [ho]
          simp only
          cases hwt : Region.wanted o (yielded ops a.tmps) with
          | true =>
            rw [if_pos rfl]
            refine .inl (Oper.wp_of_quiet (C := Sat c.σ R1 (L ++ G)) (K := fun a' => a' = a.put o.dst x.2) hw (fun a' w' hw' ha' => by subst ha'; exact next w' hw') ⟨x.2, fun w' hw' => ?_, rfl⟩)
            rcases hqq R1 hR1 G w' hw' with h | h
            · exact h.2
            · rw [hwt] at h; cases h.1
          | false =>
            rw [if_neg (by decide)]
            rcases hqq R1 hR1 G w hw with h | h
            · rw [hwt] at h; cases h.1
            · have := next w hw; rw [h.2] at this; exact this
        · have hmem : i ∈ cs := by
            rcases (hl i hilt).1 hu with h | h | h
            · exact absurd h hip
            · exact h
            · exfalso
              cases hpe : pend with
              | cons y p => have := hanc _ (hFT _ (hp y (by rw [hpe]; simp)) i h); rw [hpu y (by rw [hpe]; simp)] at this; cases this
              | nil => cases hce : cs with
                | cons k p => have := hanc _ (hCT k (hcC k (by rw [hce]; simp)) i h); rw [hcsu k (by rw [hce]; simp)] at this; cases this
                | nil => exact absurd ⟨hpe, hce⟩ hall
          have hfirst : firstB ops cs i = true := by
            unfold firstB
            rw [List.all_eq_true]
            intro j hj
            rw [Bool.not_eq_true']
            cases ha : ancB ops ops.size i j with
            | false => rfl
            | true => have := hanc j ha; rw [hcsu j hj] at this; cases this
          obtain ⟨n, hn⟩ : ∃ n, cs.length = n + 1 := ⟨cs.length - 1, by have := List.length_pos_of_mem hmem; omega⟩
          rw [hn] at hX
          have hkC : i ∈ Cs := hcC i hmem
          have hlk : ∀ y ∈ pend, ∀ d, dstAt ops y.1 = some d → d ∉ o.looksAt ops := by
            intro y hy
            refine not_looks ho ?_
            rcases (hFC _ (hp y hy) i hkC).2 with h | h
            · have := hanc _ h; rw [hpu y hy] at this; cases this
            · exact h
          have hsel := noSel_spec ho (hCs i hkC)
          obtain ⟨o', ho', hstep⟩ := hX i hmem hfirst
          rw [ho] at ho'; cases ho'
          have hst := hstep _ w hE hw
          rw [wanted_virt hlk] at hst
          have hod : o.dst = dstAt ops i := by simp [dstAt, ho]
          have hvp : ∀ u, virt ops (a.put o.dst u) pend = (virt ops a pend).put o.dst u := fun u => virt_put pend a fun y hy e he => by
            rw [hod] at he
            exact not_same (hFlt _ (hp y hy)) ((hFC _ (hp y hy) i hkC).1.1.2) e he
          have hdf : Fr c.n [] a := .bare (by have := hE.size; rwa [virt_size] at this) (by have := hE.dfs; rwa [virt_defers] at this)
          have hlen : (cs.erase i).length = n := by rw [List.length_erase_of_mem hmem]; omega
          have next : ∀ u w' E' R2 G', R1.le R2 → Fr c.n E' ((virt ops a pend).put o.dst u) → Sat c.σ R2 (L ++ G') w' → XS c ops L (fun E R G => TK c ops Q R Ts (L ++ G) E) PX n (cs.erase i) E' R2 G' →
              wpAny c.P .any ops Q fuel (listed.setIfInBounds i true) (a.put o.dst u) w' := by
            intro u w' E' R2 G' hle hE' hw' hX'
            refine ih _ _ _ ⟨hs', hc', pend, cs.erase i, E', R2, G', Hp.le_trans hR1 hle, hp, hpn, ⟨fun j hj => hcC j (List.mem_of_mem_erase hj), hcn.erase i⟩, by rw [hlen]; exact hX', by rw [hvp]; exact hE', hw', fun y hy => ?_, fun j hj => ?_, ?_⟩
            · rw [hvp, hod]
              exact QK.put ((hFC _ (hp y hy) i hkC).1.1.1) (hq y hy)
            · rw [hgd]
              by_cases hji : j = i
              · rw [if_pos hji]
                simp only [Bool.true_eq_false, false_iff, not_or]
                subst hji
                refine ⟨hip, fun h => ?_, fun h => ?_⟩
                · exact hcn.not_mem_erase h
                · have := (hC _ hkC).2; simp [h] at this
              · rw [if_neg hji, hl j hj, List.mem_erase_of_ne hji]
            · rw [hlen]; omega
          unfold wpOp
          rw [ho]
          simp only
          cases hwt : Region.wanted o (yielded ops a.tmps) with
          | true =>
            rw [hwt, if_pos rfl] at hst
            rw [if_pos rfl]
            refine .inl ?_
            unfold Oper.wp at hst ⊢
            rw [execOp_virt hsel hlk] at hst
            refine upon_moveP hst ?_ ?_ ?_
            · rintro u w' ⟨u', E', R2, G', hle, he, h1, h2, h3⟩
              exact next u w' E' R2 G' hle h1 h2 h3
            · rintro q w' ⟨u', E', R2, G', hle, he, h1, h2, h3⟩
              have := h1.dfs
              cases hd2 : o.dst <;> simp [Act.put, hd2] at this
            · exact fun ch w' h => hpan ch a w' hdf h
          | false =>
            rw [hwt, if_neg (by decide)] at hst
            rw [if_neg (by decide)]
            obtain ⟨E', R2, G', hle, h1, h2, h3⟩ := hst
            exact next undef w E' R2 G' hle h1 h2 h3
end
section
variable {c : Cx} {l : List Oper} {Q : Exit → Act → World → Prop} {E : Env} {R : Hp} {L : List Asn}
theorem cj_mixsk {id : Nat} (Fs Cs Ts : List Nat) (G0 : List Asn) {L0 : List Asn} {KK : Env → Hp → List Asn → Prop} {PX : List PanicEntry → World → Prop} (hpan : ∀ ch (a : Act) w, Fr c.n [] a → PX ch w → Q (.panic ch) a w) (hL : Sub L0 (L ++ G0)) (hm : c.P.follows .mixedOrders = true) (hB : mixSB l.toArray Fs Cs Ts = true)
    (hK : ∀ E R G, KK E R G → TK c l.toArray Q R Ts (L ++ G) E)
    (h : FJ c l.toArray R L (fun E' => XS c l.toArray L KK PX Cs.length Cs E' R G0) Fs E) : CJ c (.region id l.toArray true) Q E R L0 := by
  intro a w hf hs0
  have hs := hs0.sub hL
  refine wp_region_any hm (mixS_any (Q := Q) (R := R) (L := L) (PX := PX) hpan hB _ _ _ _ ?_)
  have hB' := hB
  simp only [mixSB, Bool.and_eq_true, List.all_eq_true, Bool.not_eq_true', Bool.or_eq_true, decide_eq_true_eq] at hB'
  obtain ⟨⟨⟨⟨⟨⟨⟨⟨⟨⟨⟨⟨⟨⟨hlow, hcover⟩, hFn⟩, hCn⟩, hTn⟩, hself⟩, hF⟩, hC⟩, hT⟩, hpair⟩, hFs⟩, hCs⟩, hFC⟩, hFT⟩, hCT⟩ := hB'
  -- the values of those that only look
  have key : ∀ (Fs : List Nat) (a : Act) (E : Env), (∀ i ∈ Fs, looksB l.toArray i i = false) → (∀ i ∈ Fs, noSel l.toArray i = true) → pairB l.toArray Fs = true → Fr c.n E a →
      FJ c l.toArray R L (fun E' => XS c l.toArray L KK PX Cs.length Cs E' R G0) Fs E →
      ∃ (pend : List (Nat × Value)) (E' : Env), pend.map (·.1) = Fs ∧ Fr c.n E' (virt l.toArray a pend) ∧ (∀ x ∈ pend, QK c l.toArray R L x (virt l.toArray a pend)) ∧ XS c l.toArray L KK PX Cs.length Cs E' R G0 := by
    intro Fs
    induction Fs with
    | nil => intro a E _ _ _ hf h; exact ⟨[], E, rfl, hf, fun x hx => (by cases hx), h⟩
    | cons i is ih =>
      intro a E hself hsel hpair hf h
      obtain ⟨v, E1, ⟨o, d, ho, hd, hn, rfl, hspec⟩, hrest⟩ := h
      have hpair' := hpair
      simp only [pairB, Bool.and_eq_true, List.all_eq_true, Bool.not_eq_true', Bool.or_eq_true] at hpair'
      have hda : dstAt l.toArray i = some d := by unfold dstAt; rw [ho]; exact hd
      have hilt : i < l.toArray.size := (Array.getElem?_eq_some_iff.1 ho).1
      obtain ⟨pend, E', e1, e2, e3, e4⟩ := ih (a.put (some d) v) _ (fun j hj => hself j (by simp [hj])) (fun j hj => hsel j (by simp [hj])) hpair'.2 (hf.put hn v) hrest
      have hmem : ∀ y ∈ pend, y.1 ∈ is := fun y hy => by rw [← e1]; exact List.mem_map.2 ⟨y, hy, rfl⟩
      have hvt : virt l.toArray a ((i, v) :: pend) = virt l.toArray (a.put (some d) v) pend := by
        have := virt_take (ops := l.toArray) (x := (i, v)) [] pend a fun y hy e he => by
          simp only [List.nil_append] at hy
          exact not_same (by
            have := hmem y hy
            rw [← e1] at this
            obtain ⟨z, hz, hze⟩ := List.mem_map.1 this
            obtain ⟨o', ho', _⟩ := e3 z hz
            rw [← hze]
            exact (Array.getElem?_eq_some_iff.1 ho').1) (hpair'.1 y.1 (hmem y hy)).1.2 e he
        simpa [hda] using this
      refine ⟨(i, v) :: pend, E', by simp [e1], by rw [hvt]; exact e2, fun x hx => ?_, e4⟩
      rw [hvt]
      rcases List.mem_cons.1 hx with rfl | hx
      · have q0 : QK c l.toArray R L (i, v) a := ⟨o, ho, noSel_spec ho (hsel i (by simp)), fun R' hR G w hw => by
          rcases hspec with ⟨hw1, hy⟩ | ⟨hw1, hy⟩
          · exact .inl ⟨hw1 a hf, hy R' hR G a w hf hw⟩
          · exact .inr ⟨hw1 a hf, hy⟩⟩
        have q1 : QK c l.toArray R L (i, v) (a.put (dstAt l.toArray i) v) := QK.put (hself i (by simp)) q0
        rw [hda] at q1
        have : ∀ (p : List (Nat × Value)) (a : Act), (∀ y ∈ p, looksB l.toArray i y.1 = false) → QK c l.toArray R L (i, v) a → QK c l.toArray R L (i, v) (virt l.toArray a p) := by
          intro p
          induction p with
          | nil => intro a _ q; exact q
          | cons y p ihp => intro a hp q; exact QK.put (hp y (by simp)) (ihp a (fun z hz => hp z (by simp [hz])) q)
        exact this pend _ (fun y hy => (hpair'.1 y.1 (hmem y hy)).1.1.1) q1
      · exact e3 x hx
  obtain ⟨pend, E', e1, e2, e3, e4⟩ := key Fs a E hself hFs hpair hf h
  have hmono : ∀ (n : Nat) (cs : List Nat) (E : Env) (R : Hp) (G : List Asn), XS c l.toArray L KK PX n cs E R G → XS c l.toArray L (fun E R G => TK c l.toArray Q R Ts (L ++ G) E) PX n cs E R G := by
    intro n
    induction n with
    | zero => intro cs E R G h; exact hK E R G h
    | succ n ih =>
      intro cs E R G h i hi hfi
      obtain ⟨o, ho, hst⟩ := h i hi hfi
      refine ⟨o, ho, fun a w ha hw => ?_⟩
      have := hst a w ha hw
      split
      · rename_i hwt
        rw [if_pos hwt] at this
        exact Oper.wp_mono (fun a' w' ⟨u, E', R', G', hle, h1, h2, h3, h4⟩ => ⟨u, E', R', G', hle, h1, h2, h3, ih _ _ _ _ h4⟩) this
      · rename_i hwt
        rw [if_neg hwt] at this
        obtain ⟨E', R', G', hle, h1, h2, h3⟩ := this
        exact ⟨E', R', G', hle, h1, h2, ih _ _ _ _ h3⟩
  have hrep : ∀ j, (Array.replicate l.toArray.size false).getD j false = false := fun j => by
    rw [Array.getD_eq_getD_getElem?, Array.getElem?_replicate]; split <;> rfl
  refine ⟨by simp, fun i o _ hl => (by rw [hrep] at hl; cases hl), pend, Cs, E', R, G0, Hp.le_refl R, fun x hx => by rw [← e1]; exact List.mem_map.2 ⟨x, hx, rfl⟩, by rw [e1]; exact hFn, ⟨fun _ h => h, hCn⟩, hmono _ _ _ _ _ e4, e2, hs.drew, e3, fun j hj => ?_, ?_⟩
  · rw [hrep, e1]
    simp only [true_iff]
    have := hcover j (by simpa using hj)
    simp only [List.contains_iff_mem] at this
    rcases this with (h | h) | h <;> simp [h]
  · have hc : (Fs ++ Cs ++ Ts).length ≤ l.toArray.size := by
      have hnd : (Fs ++ Cs ++ Ts).Nodup := by
        rw [List.nodup_append]
        refine ⟨List.nodup_append.2 ⟨hFn, hCn, fun u hu v hv he => ?_⟩, hTn, fun u hu v hv he => ?_⟩
        · subst he; have := (hF u hu).1.2; simp [hv] at this
        · subst he
          rcases List.mem_append.1 hu with h | h
          · have := (hF u h).2; simp [hv] at this
          · have := (hC u h).2; simp [hv] at this
      have hlt : ∀ x ∈ Fs ++ Cs ++ Ts, x ∈ List.range l.toArray.size := by
        intro x hx
        rw [List.mem_range]
        simp only [List.mem_append] at hx
        rcases hx with (h | h) | h
        · exact Nat.lt_of_lt_of_le (Nat.lt_succ_self _) (Nat.le_of_ble_eq_true (hF x h).1.1)
        · exact Nat.lt_of_lt_of_le (Nat.lt_succ_self _) (Nat.le_of_ble_eq_true (hC x h).1)
        · exact Nat.lt_of_lt_of_le (Nat.lt_succ_self _) (Nat.le_of_ble_eq_true (hT x h))
      exact nodup_len _ _ hnd fun x hx => by simpa using hlt x hx
    have hl : pend.length = Fs.length := by rw [← e1]; simp
    simp at hc
    rw [hl]
    simp
    omega
end
section
variable {c : Cx} {ops : Array Oper} {Q : Exit → Act → World → Prop} {R : Hp} {L : List Asn} {E : Env} {PX : List PanicEntry → World → Prop}
theorem upon_nextP {P : Program} {o : Oper} {a : Act} {w : World} {K K' : Act → World → Prop} (h : wpList P ops (Exit.then K (PE PX)) [o] a w) (hk : ∀ a' w', K a' w' → K' a' w') :
    if Region.wanted o (yielded ops a.tmps) then o.wp P a w K' (PE PX) else K' (a.put o.dst undef) w := by
  unfold wpList at h
  split at h
  · rename_i hw
    rw [if_pos hw]
    rcases h with h | h
    · unfold Oper.wp at *
      generalize (execOp a.eval o).run P w = r at *
      cases r with
      | ok n w' =>
        cases n <;> simp only [Oper.upon, wpList, Exit.then] at h ⊢ <;> first | exact hk _ _ h | exact h.elim | skip
        case enter f args =>
          refine h.mono fun e w'' hh => ?_
          cases e with
          | returned v => exact hk _ _ hh
          | panicked ch => exact hh
          | outgrown => obtain ⟨_, _, ch', e, _⟩ := hh; cases e
        case row row args => exact h.mono fun v w'' hh => hk _ _ hh
      | halt x w' =>
        cases x <;> simp only [Oper.upon, Exit.then] at h ⊢
        exact h
    · obtain ⟨_, a', w', ch, e, _⟩ := h; cases e
  · rename_i hw
    rw [if_neg hw]
    exact hk _ _ h
theorem upon_putP {P : Program} {o : Oper} {a : Act} {K : Act → World → Prop} {r : Result Next} (h : o.upon P a K (PE PX) r) (hd : ∀ a' w', K a' w' → a'.defers = []) :
    o.upon P a (fun a' w' => (∃ u, a' = a.put o.dst u) ∧ K a' w') (PE PX) r := by
  cases r with
  | ok n w' =>
    cases n <;> simp only [Oper.upon] at h ⊢ <;> first | exact ⟨⟨_, rfl⟩, h⟩ | exact h.elim | skip
    case defer d => have := hd _ _ h; cases hdd : o.dst <;> simp [Act.put, hdd] at this
    case enter f args =>
      refine h.mono fun e w'' hh => ?_
      cases e with
      | returned v => exact ⟨⟨_, rfl⟩, hh⟩
      | panicked ch => exact hh
      | outgrown => obtain ⟨_, _, ch', e, _⟩ := hh; cases e
    case row row args => exact h.mono fun v w'' hh => ⟨⟨_, rfl⟩, hh⟩
  | halt x w' => cases x <;> simp only [Oper.upon] at h ⊢ <;> exact h
/-- a step of the set, by the rules of a lexical region -/
def YK (c : Cx) (R : Hp) (L : List Asn) (X : Env → Hp → List Asn → Prop) (a : Act) (w : World) : Prop :=
  ∃ E' R' G', R.le R' ∧ Fr c.n E' a ∧ Sat c.σ R' (L ++ G') w ∧ X E' R' G'
theorem rj_yk {R1 : Hp} {Qx : Exit → Act → World → Prop} {X : Env → Hp → List Asn → Prop} {M G' : List Asn} (hR : R.le R1) (hS : Sub M (L ++ G')) (h : X E R1 G') : RJ c ops (Exit.then (YK c R L X) Qx) [] E R1 M :=
  rj_nil fun a w hf hs => ⟨E, R1, G', hR, hf, hs.sub hS, h⟩
theorem yj_rj {X : Env → Hp → List Asn → Prop} {G : List Asn} {i : Nat} {o : Oper} (ho : ops[i]? = some o)
    (h : RJ c ops (Exit.then (YK c R L X) (PE PX)) [o] E R (L ++ G)) : YJ c ops L PX X i E R G :=
  ⟨o, ho, fun a w hf hs => by
    have := upon_nextP (h a w hf hs) (K' := YK c R L X) (fun _ _ h => h)
    split
    · rename_i hw
      rw [if_pos hw] at this
      refine Oper.wp_mono ?_ (upon_putP this fun a' w' ⟨E', R', G', _, h1, _⟩ => h1.dfs)
      rintro a' w' ⟨⟨u, rfl⟩, E', R', G', hle, h1, h2, h3⟩
      exact ⟨u, E', R', G', hle, rfl, h1, h2, h3⟩
    · rename_i hw
      rw [if_neg hw] at this
      exact this⟩
def AY (c : Cx) (ops : Array Oper) (L : List Asn) (K : Env → Hp → List Asn → Prop) (PX : List PanicEntry → World → Prop) (n : Nat) (rem : List Nat) (E : Env) (R : Hp) (G : List Asn) : List Nat → Prop
  | [] => True
  | i :: is => YJ c ops L PX (XS c ops L K PX n (rem.erase i)) i E R G ∧ AY c ops L K PX n rem E R G is
theorem AY.spec {K : Env → Hp → List Asn → Prop} {n : Nat} {rem : List Nat} {G : List Asn} : ∀ {is : List Nat}, AY c ops L K PX n rem E R G is → ∀ i ∈ is, YJ c ops L PX (XS c ops L K PX n (rem.erase i)) i E R G
  | [], _, i, h => by cases h
  | j :: is, h, i, hi => by
    rcases List.mem_cons.1 hi with rfl | hi
    · exact h.1
    · exact AY.spec h.2 i hi
theorem xs_all {K : Env → Hp → List Asn → Prop} {n : Nat} {rem : List Nat} {G : List Asn} (fs : List Nat) (hf : (rem.filter fun i => firstB ops rem i) = fs) (h : AY c ops L K PX n rem E R G fs) : XS c ops L K PX (n + 1) rem E R G :=
  fun i hi hfi => AY.spec h i (by rw [← hf]; exact List.mem_filter.2 ⟨hi, hfi⟩)
end
section
variable {c : Cx} {l : List Oper} {Q : Exit → Act → World → Prop} {R : Hp} {L : List Asn} {E : Env} {PX : List PanicEntry → World → Prop}
/-- with a tail in one row -/
theorem cj_mixs {id : Nat} (Fs Cs Ts : List Nat) (G0 : List Asn) {L0 : List Asn} {tl : List Oper} (hpan : ∀ ch (a : Act) w, Fr c.n [] a → PX ch w → Q (.panic ch) a w) (hL : Sub L0 (L ++ G0)) (hm : c.P.follows .mixedOrders = true) (hB : mixSB l.toArray Fs Cs Ts = true) (hr : rowB l.toArray Ts = true) (ht : picks l Ts = some tl)
    (h : FJ c l.toArray R L (fun E' => XS c l.toArray L (fun E R G => RJ c l.toArray Q tl E R (L ++ G)) PX Cs.length Cs E' R G0) Fs E) : CJ c (.region id l.toArray true) Q E R L0 := by
  have hB' := hB
  simp only [mixSB, Bool.and_eq_true, List.all_eq_true, Bool.not_eq_true', Bool.or_eq_true, decide_eq_true_eq] at hB'
  obtain ⟨⟨⟨⟨⟨⟨⟨⟨⟨⟨⟨⟨⟨⟨hlow, hcover⟩, hFn⟩, hCn⟩, hTn⟩, hself⟩, hF⟩, hC⟩, hT⟩, hpair⟩, hFs⟩, hCs⟩, hFC⟩, hFT⟩, hCT⟩ := hB'
  refine cj_mixsk (KK := fun E R G => RJ c l.toArray Q tl E R (L ++ G)) Fs Cs Ts G0 hpan hL hm hB (fun E R G h fuel listed a w hs hc hl hn hf hsat => ?_) h
  exact row_any hlow Ts fuel listed a w hr hTn (fun j hj => Nat.lt_of_lt_of_le (Nat.lt_succ_self _) (Nat.le_of_ble_eq_true (hT j hj))) hs hc hl hn (wpOps_picks ht (h a w hf hsat))
/-- with a tail in several orders -/
theorem cj_mixst {id : Nat} (Fs Cs Ts : List Nat) (G0 : List Asn) {L0 : List Asn} (hpan : ∀ ch (a : Act) w, Fr c.n [] a → PX ch w → Q (.panic ch) a w) (hL : Sub L0 (L ++ G0)) (hm : c.P.follows .mixedOrders = true) (hB : mixSB l.toArray Fs Cs Ts = true)
    (h : FJ c l.toArray R L (fun E' => XS c l.toArray L (fun E R G => TJ c l.toArray Q Ts.length (listedOf l.length Ts) E R (L ++ G)) PX Cs.length Cs E' R G0) Fs E) : CJ c (.region id l.toArray true) Q E R L0 :=
  cj_mixsk (KK := fun E R G => TJ c l.toArray Q Ts.length (listedOf l.length Ts) E R (L ++ G)) Fs Cs Ts G0 hpan hL hm hB (fun E R G h fuel listed a w hs hc hl hn hf hsat => by
    have e := listed_eq hs hl
    subst e
    exact wpAny_nrm _ _ _ _ _ (by have := h fuel a w hn hf hsat; simpa using this)) h
theorem xs_nil {c : Cx} {ops : Array Oper} {R : Hp} {L : List Asn} {E : Env} {PX : List PanicEntry → World → Prop} {K : Env → Hp → List Asn → Prop} {rem : List Nat} {G : List Asn} (h : K E R G) : XS c ops L K PX 0 rem E R G := h
/-- panics that are handed on -/
def panX (c : Cx) (Q : Exit → Act → World → Prop) : List PanicEntry → World → Prop := fun ch w => ∀ a : Act, Fr c.n [] a → Q (.panic ch) a w
theorem panX_ok : ∀ ch (a : Act) w, Fr c.n [] a → panX c Q ch w → Q (.panic ch) a w := fun _ a _ h k => k a h
theorem noX_ok : ∀ ch (a : Act) w, Fr c.n [] a → (fun _ _ => False : List PanicEntry → World → Prop) ch w → Q (.panic ch) a w := fun _ _ _ _ h => h.elim
end
end V
end Go.Proofs.Ytcgjlhhfldkdaaa
