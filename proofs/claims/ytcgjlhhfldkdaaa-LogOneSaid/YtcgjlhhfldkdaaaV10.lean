/- Regions that draw their order, whose tail has several orders: each is walked. -/
import Derived.Test.YtcgjlhhfldkdaaaV9
set_option linter.unusedSimpArgs false
set_option linter.unusedVariables false
namespace Go.Proofs.Ytcgjlhhfldkdaaa
open Go.RowKit
namespace V
/-- only the normal end -/
def nrm (Q : Exit → Act → World → Prop) : Exit → Act → World → Prop
  | .normal, a, w => Q .normal a w
  | _, _, _ => False
section
variable {c : Cx} {ops : Array Oper} {Q : Exit → Act → World → Prop} {R : Hp} {L : List Asn}
theorem wpAny_nrm : ∀ (fuel : Nat) (listed : Array Bool) (a : Act) (w : World) (P : Program), wpAny P .any ops (nrm Q) fuel listed a w → wpAny P .any ops Q fuel listed a w
  | 0, listed, a, w, P, h => h
  | fuel + 1, listed, a, w, P, h => ⟨h.1, fun i hi => by
      have := h.2 i hi
      have hu : ∀ {o : Oper} {K : Act → World → Prop} {r : Result Next}, o.upon P a K (nrm Q) r → o.upon P a K Q r := by
        intro o K r hr
        unfold Oper.upon at *
        split <;> simp_all [nrm]
        all_goals (first | exact hr.elim | skip)
        refine Calls.mono hr ?_
        rintro e w' he
        split <;> simp_all
        obtain ⟨_, _, hh⟩ := he
        exact hh.elim
      unfold wpOp at *
      cases ho : ops[i]? with
      | none => rw [ho] at this; exact wpAny_nrm fuel _ _ _ P this
      | some o =>
        rw [ho] at this
        simp only at this ⊢
        by_cases hw : Region.wanted o (yielded ops a.tmps) = true
        · rw [if_pos hw] at this ⊢
          rcases this with h | h
          · exact .inl (hu (Oper.wp_mono (fun a' w' h => wpAny_nrm fuel _ a' w' P h) h))
          · obtain ⟨_, _, _, hh⟩ := h; exact hh.elim
        · rw [if_neg hw] at this ⊢; exact wpAny_nrm fuel _ _ _ P this⟩
/-- all orders of what is left -/
def TJ (c : Cx) (ops : Array Oper) (Q : Exit → Act → World → Prop) (n : Nat) (listed : Array Bool) (E : Env) (R : Hp) (L : List Asn) : Prop :=
  ∀ fuel a w, n ≤ fuel → Fr c.n E a → Sat c.σ R L w → wpAny c.P .any ops (nrm Q) fuel listed a w
def listedOf (n : Nat) (Ts : List Nat) : Array Bool := ⟨(List.range n).map fun j => !Ts.contains j⟩
theorem listed_eq {listed : Array Bool} {Ts : List Nat} (hs : listed.size = ops.size) (h : ∀ j, j < ops.size → (listed.getD j false = false ↔ j ∈ Ts)) : listed = listedOf ops.size Ts := by
  apply Array.ext
  · simp [listedOf, hs]
  · intro j h1 h2
    have := h j (by omega)
    rw [Array.getD_eq_getD_getElem?, Array.getElem?_eq_getElem h1] at this
    simp only [Option.getD_some] at this
    simp only [listedOf, List.getElem_toArray, List.getElem_map, List.getElem_range]
    cases hb : listed[j] with
    | false => rw [hb] at this; simp [this.1 rfl]
    | true => rw [hb] at this; simp at this; simp [this]
variable {E : Env} {n : Nat} {listed : Array Bool}
theorem tj_done (hr : Region.ready .any ops listed = []) (h : EJ c (Q .normal) E R L) : TJ c ops Q n listed E R L :=
  fun fuel a w _ hf hs => wpAny_done (Q := nrm Q) hr (h a w hf hs) fuel
/-- each that may come next -/
def AJ (c : Cx) (ops : Array Oper) (Q : Exit → Act → World → Prop) (n : Nat) (listed : Array Bool) (E : Env) (R : Hp) (L : List Asn) : List Nat → Prop
  | [] => True
  | i :: is => (∃ o, ops[i]? = some o ∧ RJ c ops (Exit.then (fun a w => ∀ fuel, n ≤ fuel → wpAny c.P .any ops (nrm Q) fuel (listed.setIfInBounds i true) a w) (fun _ _ _ => False)) [o] E R L) ∧ AJ c ops Q n listed E R L is
theorem AJ.spec : ∀ {is : List Nat}, AJ c ops Q n listed E R L is → ∀ i ∈ is, ∃ o, ops[i]? = some o ∧ RJ c ops (Exit.then (fun a w => ∀ fuel, n ≤ fuel → wpAny c.P .any ops (nrm Q) fuel (listed.setIfInBounds i true) a w) (fun _ _ _ => False)) [o] E R L
  | [], _, i, h => by cases h
  | j :: is, h, i, hi => by
    rcases List.mem_cons.1 hi with rfl | hi
    · exact h.1
    · exact AJ.spec h.2 i hi
theorem upon_next {P : Program} {o : Oper} {a : Act} {w : World} {K K' : Act → World → Prop} {Q' : Exit → Act → World → Prop} (h : wpList P ops (Exit.then K (fun _ _ _ => False)) [o] a w) (hk : ∀ a' w', K a' w' → K' a' w') :
    if Region.wanted o (yielded ops a.tmps) then o.wp P a w K' Q' else K' (a.put o.dst undef) w := by
  unfold wpList at h
  split at h
  · rename_i hw
    rw [if_pos hw]
    rcases h with h | h
    · unfold Oper.wp at *
      unfold Oper.upon at *
      split <;> simp_all [wpList, Exit.then]
      · refine Calls.mono h ?_
        rintro e w' he
        split <;> simp_all
        · exact absurd he (by rintro ⟨_, _, h⟩; exact h)
      · exact Rows.mono h fun v w' h => hk _ _ h
    · obtain ⟨_, _, _, hh⟩ := h; exact hh.elim
  · rename_i hw
    rw [if_neg hw]
    exact hk _ _ h
theorem tj_all {rs : List Nat} (hr : Region.ready .any ops listed = rs) (hne : rs ≠ []) (h : AJ c ops Q n listed E R L rs) : TJ c ops Q (n + 1) listed E R L := by
  intro fuel a w hn hf hs
  obtain ⟨fuel, rfl⟩ : ∃ k, fuel = k + 1 := ⟨fuel - 1, by omega⟩
  refine wpAny_all hr hne fun i hi => ?_
  obtain ⟨o, ho, hj⟩ := AJ.spec h i hi
  have := upon_next (Q' := nrm Q) (hj a w hf hs) (K' := wpAny c.P .any ops (nrm Q) fuel (listed.setIfInBounds i true)) (fun a' w' hk => hk fuel (by omega))
  unfold wpOp
  rw [ho]
  simp only
  split
  · rename_i hw; rw [if_pos hw] at this; exact .inl this
  · rename_i hw; rw [if_neg hw] at this; exact this
theorem ej_tj {i : Nat} (h : TJ c ops Q n (listed.setIfInBounds i true) E R L) : EJ c (fun a w => ∀ fuel, n ≤ fuel → wpAny c.P .any ops (nrm Q) fuel (listed.setIfInBounds i true) a w) E R L :=
  fun a w hf hs fuel hn => h fuel a w hn hf hs
def pureK : Op → Bool
  | .move _ | .assign _ | .pick .. | .nilCheck _ | .fieldAddr .. | .indexAddr .. | .binOp .. | .unOp .. | .extract .. | .build .. => true
  | _ => false
def okVal : Result Next → Prop
  | .ok (.value _) _ => True
  | .ok _ _ => False
  | _ => True
theorem okVal_bind {P : Program} {w : World} (s : Sem Value) : okVal ((do pure (Next.value (← s)) : Sem Next).run P w) := by
  rw [Sem.run_bind]
  cases s.run P w <;> simp [Result.andThen, okVal]
theorem pure_val {P : Program} {o : Oper} (h : pureK o.op = true) (ρ : Operand → Value) (w : World) : okVal ((execOp ρ o).run P w) := by
  obtain ⟨d, op, ty, p, af, g⟩ := o
  cases op <;> first | (simp [pureK] at h; done) | exact okVal_bind _ | (simp [execOp, okVal]; done) | skip
  all_goals (simp only [execOp])
  · rw [Sem.run_bind]; cases (asBool _).run P w <;> simp [okVal, Result.andThen]
  · split
    · exact True.intro
    · exact True.intro
    · exact True.intro
    · split
      · exact True.intro
      · simp only [Sem.run_bind]
        cases h1 : program.run P w with
        | ok x w' =>
          simp only [Result.andThen]
          cases h2 : (nilAhead _ _ _ _).run P w' with
          | ok y w2 => simp only [Result.andThen]; split <;> simp [okVal]
          | halt y w2 => simp [Result.andThen, okVal]
        | halt x w' => simp [Result.andThen, okVal]
      · simp [okVal]
    · simp [okVal]
/-- one that is pure and free comes first -/
theorem tj_take {i d : Nat} {o : Oper} {v : Value} (ho : ops[i]? = some o) (hd : o.dst = some d) (hb : Nat.blt d c.n = true) (hs : Region.noSelect ops = true) (hfr : Region.free .any ops listed i = true) (hr : (Region.ready .any ops listed).contains i = true)
    (hw : Wn c ops E o true) (hpu : pureK o.op = true) (y : ∀ σ, Yld ⟨c.P, c.n, σ⟩ E Hp.emp [] o v) (h : TJ c ops Q n (listed.setIfInBounds i true) ((d, v) :: E) R L) : TJ c ops Q (n + 1) listed E R L := by
  intro fuel a w hn hf hsat
  obtain ⟨fuel, rfl⟩ : ∃ k, fuel = k + 1 := ⟨fuel - 1, by omega⟩
  refine wpAny_take ho hs hfr hr (fun c a w h => h) (.inl ⟨hw a hf, fun w => ?_⟩) (h fuel _ w (by omega) (by rw [hd]; exact hf.put hb v) hsat)
  have := y w a w ⟨hf.size, hf.dfs, hf.get⟩ ⟨rfl, rfl, rfl, fun _ _ h => (by cases h), Hp.emp, fun _ _ h => (by cases h), fun _ => .inl rfl, trivial⟩
  have hv := pure_val (P := c.P) hpu a.eval w
  simp only at this
  revert this hv
  cases hr : (execOp a.eval o).run c.P w with
  | ok x w' => cases x <;> simp_all [okVal, Oper.quietUpon]
  | halt x w' => simp_all [Oper.quietUpon]
theorem rj_tj {Qx : Exit → Act → World → Prop} {i : Nat} (h : TJ c ops Q n (listed.setIfInBounds i true) E R L) :
    RJ c ops (Exit.then (fun a w => ∀ fuel, n ≤ fuel → wpAny c.P .any ops (nrm Q) fuel (listed.setIfInBounds i true) a w) Qx) [] E R L := rj_nil (ej_tj h)
/-- a step of the row, by the rules of a lexical region -/
def XK (c : Cx) (ops : Array Oper) (R : Hp) (L : List Asn) (K : Env → Hp → List Asn → Prop) (is : List Nat) (a : Act) (w : World) : Prop :=
  ∃ E' R' G', R.le R' ∧ Fr c.n E' a ∧ Sat c.σ R' (L ++ G') w ∧ XJ c ops L K is E' R' G'
theorem rj_xk {R1 : Hp} {Qx : Exit → Act → World → Prop} {K : Env → Hp → List Asn → Prop} {is : List Nat} {M G' : List Asn} (hR : R.le R1) (hS : Sub M (L ++ G')) (h : XJ c ops L K is E R1 G') : RJ c ops (Exit.then (XK c ops R L K is) Qx) [] E R1 M :=
  rj_nil fun a w hf hs => ⟨E, R1, G', hR, hf, hs.sub hS, h⟩
theorem upon_put {P : Program} {o : Oper} {a : Act} {K : Act → World → Prop} {Q' : Exit → Act → World → Prop} {r : Result Next} (h : o.upon P a K (fun _ _ _ => False) r) (hd : ∀ a' w', K a' w' → a'.defers = []) :
    o.upon P a (fun a' w' => (∃ u, a' = a.put o.dst u) ∧ K a' w') Q' r := by
  unfold Oper.upon at *
  split <;> simp_all
  · exact ⟨_, rfl⟩
  · exact ⟨_, rfl⟩
  · have := hd _ _ h; cases hdd : o.dst <;> simp [Act.put, hdd] at this
  · refine Calls.mono h ?_
    rintro e w' he
    split <;> simp_all
    · exact ⟨_, rfl⟩
    · exact absurd he (by rintro ⟨_, _, h⟩; exact h)
  · exact Rows.mono h fun v w' h => ⟨⟨v, rfl⟩, h⟩
theorem xj_rj {K : Env → Hp → List Asn → Prop} {G : List Asn} {i : Nat} {is : List Nat} {o : Oper} (ho : ops[i]? = some o)
    (h : RJ c ops (Exit.then (XK c ops R L K is) (fun _ _ _ => False)) [o] E R (L ++ G)) : XJ c ops L K (i :: is) E R G :=
  ⟨o, ho, fun a w hf hs => by
    have := upon_next (Q' := fun _ _ _ => False) (h a w hf hs) (K' := XK c ops R L K is) (fun _ _ h => h)
    split
    · rename_i hw
      rw [if_pos hw] at this
      refine Oper.wp_mono ?_ (upon_put this fun a' w' ⟨E', R', G', _, h1, _⟩ => h1.dfs)
      rintro a' w' ⟨⟨u, rfl⟩, E', R', G', hle, h1, h2, h3⟩
      exact ⟨u, E', R', G', hle, rfl, h1, h2, h3⟩
    · rename_i hw
      rw [if_neg hw] at this
      exact this⟩
end
section
variable {c : Cx} {l : List Oper} {Q : Exit → Act → World → Prop} {R : Hp} {L : List Asn} {E : Env}
theorem cj_mixt {id : Nat} (Fs Cs Ts : List Nat) (G0 : List Asn) {L0 : List Asn} (hL : Sub L0 (L ++ G0)) (hm : c.P.follows .mixedOrders = true) (hB : mixTB l.toArray Fs Cs Ts = true)
    (h : FJ c l.toArray R L (fun E' => XJ c l.toArray L (fun E R G => TJ c l.toArray Q Ts.length (listedOf l.length Ts) E R (L ++ G)) Cs E' R G0) Fs E) : CJ c (.region id l.toArray true) Q E R L0 :=
  cj_mixk (KK := fun E R G => TJ c l.toArray Q Ts.length (listedOf l.length Ts) E R (L ++ G)) Fs Cs Ts G0 hL hm hB (fun E R G h fuel listed a w hs hc hl hn hf hsat => by
    have e := listed_eq hs hl
    subst e
    exact wpAny_nrm _ _ _ _ _ (by have := h fuel a w hn hf hsat; simpa using this)) h
end
end V
end Go.Proofs.Ytcgjlhhfldkdaaa
