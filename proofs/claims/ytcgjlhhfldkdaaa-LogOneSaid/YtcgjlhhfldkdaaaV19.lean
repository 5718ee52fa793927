/- Calls that are put off: what runs behind them, and how a function then ends. -/
import Derived.Test.YtcgjlhhfldkdaaaV18
set_option linter.unusedSimpArgs false
set_option linter.unusedVariables false
namespace Go.Proofs.Ytcgjlhhfldkdaaa
open Go.RowKit
namespace V
/-- more is put off -/
def under (D : List Deferred) (a : Act) : Act := { a with defers := a.defers ++ D }
theorem put_under (D : List Deferred) (a : Act) (d : Option Tmp) (v : Value) : (under D a).put d v = under D (a.put d v) := by cases d <;> rfl
theorem upon_under {P : Program} {D : List Deferred} {o : Oper} {a : Act} {K K' : Act → World → Prop} {Q Q' : Exit → Act → World → Prop} {r : Result Next}
    (hK : ∀ a w, K a w → K' (under D a) w) (hQ : ∀ e a w, Q e a w → Q' e (under D a) w) (h : o.upon P a K Q r) : o.upon P (under D a) K' Q' r := by
  unfold Oper.upon at *
  split <;> simp_all
  · rw [put_under]; exact hK _ _ h
  · rw [put_under]; exact hK _ _ h
  · rename_i d w'
    have e : ({ tmps := (under D a).tmps, defers := d :: (under D a).defers } : Act) = under D { tmps := a.tmps, defers := d :: a.defers } := rfl
    rw [e, put_under]; exact hK _ _ h
  · refine Calls.mono h fun e w' he => ?_
    cases e with
    | returned v => show K' _ _; rw [put_under]; exact hK _ _ he
    | panicked ch => exact hQ _ _ _ he
    | outgrown => obtain ⟨a1, w1, h1⟩ := he; exact ⟨_, _, hQ _ _ _ h1⟩
  · exact Rows.mono h fun v w' h => by rw [put_under]; exact hK _ _ h
theorem wpList_under {P : Program} {D : List Deferred} {ops : Array Oper} {Q Q' : Exit → Act → World → Prop} (hQ : ∀ e a w, Q e a w → Q' e (under D a) w) : ∀ (l : List Oper) (a : Act) (w : World),
    wpList P ops Q l a w → wpList P ops Q' l (under D a) w
  | [], a, w, h => hQ _ _ _ h
  | o :: l, a, w, h => by
    unfold wpList at h ⊢
    have ht : (under D a).tmps = a.tmps := rfl
    rw [ht]
    split
    · rename_i hw
      rw [if_pos hw] at h
      rcases h with h | ⟨h1, a1, w1, h2⟩
      · exact .inl (upon_under (fun a w h => wpList_under hQ l a w h) hQ h)
      · exact .inr ⟨h1, _, _, hQ _ _ _ h2⟩
    · rename_i hw
      rw [if_neg hw] at h
      rw [put_under]; exact wpList_under hQ l _ w h
/-- what is asked at the end -/
def EndR (σ : World) (R0 : Hp) (F : List Asn) (post : Value → Hp → List Asn → Prop) (pan : List PanicEntry → Hp → List Asn → Prop) : Ending → World → Prop :=
  fun e w' => ∃ R' L', R0.le R' ∧ Sat σ R' (L' ++ F) w' ∧
    match e with
    | .returned v => post v R' L'
    | .panicked ch => pan ch R' L'
    | .outgrown => False
def EndsD (P : Program) (fn : Func) (σ : World) (R0 : Hp) (F : List Asn) (post : Value → Hp → List Asn → Prop) (pan : List PanicEntry → Hp → List Asn → Prop) : Exit → Act → World → Prop :=
  bodyPostD P fn (EndR σ R0 F post pan)
theorem ends_d {P : Program} {fn : Func} {RR : Ending → World → Prop} {e : Exit} {a : Act} {w : World} (h : bodyPost P fn RR e a w) : bodyPostD P fn RR e a w := by
  cases e with
  | normal => obtain ⟨h1, v, h2, h3⟩ := h; show Leaves _ _ _ _ a.defers _ _; rw [h1]; exact ⟨v, h2, h3⟩
  | ret => obtain ⟨h1, v, h2, h3⟩ := h; show Leaves _ _ _ _ a.defers _ _; rw [h1]; exact ⟨v, h2, h3⟩
  | panic ch => obtain ⟨h1, h2⟩ := h; show Leaves _ _ _ _ a.defers _ _; rw [h1]; exact h2
  | outgrown => exact h
  | exit id => exact h
  | goto l => exact h
theorem tri_of_d {P : Program} {f n : Nat} {fn : Func} {body : Code} {args : List Value} {R : Hp} {L : List Asn} {post : Value → Hp → List Asn → Prop} {pan : List PanicEntry → Hp → List Asn → Prop}
    (hf : P.funcs[f]? = some fn) (hb : fn.body = some body) (hn : fn.ntmps = n) (ha : Nat.ble args.length n = true)
    (h : ∀ σ F (Q : Exit → Act → World → Prop), (∀ E R1 L1, EJ ⟨P, n, σ⟩ (Ends P fn σ R F post pan .ret) E R1 L1 → EJ ⟨P, n, σ⟩ (Q .ret) E R1 L1) → (∀ E R1 L1, EJ ⟨P, n, σ⟩ (Ends P fn σ R F post pan .normal) E R1 L1 → EJ ⟨P, n, σ⟩ (Q .normal) E R1 L1) →
      (∀ ch E R1 L1, EJ ⟨P, n, σ⟩ (Ends P fn σ R F post pan (.panic ch)) E R1 L1 → EJ ⟨P, n, σ⟩ (Q (.panic ch)) E R1 L1) → (∀ e a w, EndsD P fn σ R F post pan e a w → Q e a w) → CJ ⟨P, n, σ⟩ body Q (envOf 0 args) R (L ++ F)) : Tri P f args R L post pan :=
  fun σ F w hs => calls_of_wp_defers hf hb (by rw [hn]; exact h σ F (EndsD P fn σ R F post pan) (fun _ _ _ k a w hf hs => ends_d (k a w hf hs)) (fun _ _ _ k a w hf hs => ends_d (k a w hf hs)) (fun _ _ _ _ k a w hf hs => ends_d (k a w hf hs)) (fun _ _ _ k => k) _ w (Fr.start ha) hs)
/-- behind one that is put off -/
def tailQ (P : Program) (fn : Func) (RR : Ending → World → Prop) (d : Deferred) : Exit → Act → World → Prop
  | .normal, a, w => a.defers = [] ∧ Leaves P fn a.tmps RR [d] .returning w
  | .panic ch, a, w => a.defers = [] ∧ Leaves P fn a.tmps RR [d] (.panicking ch) w
  | _, _, _ => False
theorem cj_defer {c : Cx} {fn : Func} {σ : World} {R0 : Hp} {F : List Asn} {post : Value → Hp → List Asn → Prop} {pan : List PanicEntry → Hp → List Asn → Prop} {Q : Exit → Act → World → Prop}
    {i j : Nat} {l : List Oper} {g : FuncId} {xs : List Operand} {ts : Array TypeId} {vs : List Value} {ty : TypeId} {p : String} {af : Array Edge} {E : Env} {R : Hp} {L : List Asn}
    (hQ : ∀ e a w, EndsD c.P fn σ R0 F post pan e a w → Q e a w) (hv : evs E xs = some vs)
    (h : RJ c l.toArray (tailQ c.P fn (EndR σ R0 F post pan) { target := .fn (.func g) #[], args := ⟨vs⟩ }) l E R L) :
    CJ c (.seq (.region i #[⟨none, .defer { callee := .value (.func g), args := ⟨xs⟩, argTypes := ts }, ty, p, af, none⟩] false) (.seq (.region j l.toArray false) .ret)) Q E R L := by
  intro a w hf hs
  refine wp_seq ?_
  refine wp_region_lit (l := [_]) ?_
  unfold wpList
  rw [if_pos (wn0 rfl a hf)]
  refine .inl ?_
  have ex : (Array.mk xs).map a.eval = ⟨vs⟩ := by rw [← hf.evs hv]; simp
  have r : (execOp a.eval ⟨none, .defer { callee := .value (.func g), args := ⟨xs⟩, argTypes := ts }, ty, p, af, none⟩).run c.P w = .ok (.defer { target := .fn (.func g) #[], args := ⟨vs⟩ }) w := by
    simp [execOp, resolve, Act.eval, Deferred.ofValue, ex]
  unfold Oper.wp
  rw [r]
  simp only [Oper.upon]
  show (Code.seq (.region j l.toArray false) .ret).wp c.P Q _ w
  refine wp_seq ?_
  refine wp_region_lit ?_
  have hd := hf.dfs
  have e1 : (({ a with defers := { target := .fn (.func g) #[], args := ⟨vs⟩ } :: a.defers } : Act).put none undef) = under [{ target := .fn (.func g) #[], args := ⟨vs⟩ }] a := by
    simp [Act.put, under, hd]
  rw [e1]
  refine wpList_under ?_ l a w (h a w hf hs)
  intro e a' w' hq
  cases e with
  | normal =>
    obtain ⟨h1, h2⟩ := hq
    refine wp_ret (hQ _ _ _ ?_)
    show Leaves _ _ _ _ (a'.defers ++ _) _ _
    rw [h1]; exact h2
  | panic ch =>
    obtain ⟨h1, h2⟩ := hq
    refine hQ _ _ _ ?_
    show Leaves _ _ _ _ (a'.defers ++ _) _ _
    rw [h1]; exact h2
  | ret => exact hq.elim
  | outgrown => exact hq.elim
  | exit id => exact hq.elim
  | goto l => exact hq.elim
/-- one that is put off, as it ends -/
theorem leaves_one {P : Program} {fn : Func} {tmps : Array Value} {RR : Ending → World → Prop} {g : FuncId} {vs : List Value} {u u1 : FrameMode} {w : World} {X : World → Prop}
    (hu : u ≠ .run) (hc : ∀ args w, (callFunc g args).run P w = .ok (.enter g args) w) (h : CallsD P g ⟨vs⟩ u w fun e u' w' => (∃ v, e = .returned v) ∧ settle u' = u1 ∧ X w')
    (k : ∀ w', X w' → Leaves P fn tmps RR [] u1 w') : Leaves P fn tmps RR [{ target := .fn (.func g) #[], args := ⟨vs⟩ }] u w := by
  refine leaves_cons hu (f := g) (args := ⟨vs⟩) (by simp [invoke, hc]) (h.mono fun e u' w' ⟨⟨v, he⟩, h1, h2⟩ => ?_)
  subst he
  simp only
  rw [h1]
  exact k w' h2
theorem leaves_ret {c : Cx} {E : Env} {R R0 : Hp} {L F : List Asn} {fn : Func} {post : Value → Hp → List Asn → Prop} {pan : List PanicEntry → Hp → List Asn → Prop} {rs : List ResultVar} {vs : List Value} {a : Act} {w : World}
    (hr : fn.results = ⟨rs⟩) (hv : RVs c E R L rs vs) (R' : Hp) (L' : List Asn) (hR : R0.le R') (hRR : R' = R) (hS : Sub L (L' ++ F)) (hp : post (tupOf vs) R' L') (hf : Fr c.n E a) (hs : Sat c.σ R L w) :
    Leaves c.P fn a.tmps (EndR c.σ R0 F post pan) [] .returning w := by
  have := ej_ret (c := c) (pan := pan) hr hv R' L' hR hRR hS hp a w hf hs
  obtain ⟨_, v, h1, h2⟩ := this
  exact ⟨v, h1, h2⟩
/-- what was given up, taken up -/
def recOf (cs : List Frame) : Value × List Frame := match recoverD cs with
  | some (v, cs') => (v, cs')
  | none => (.nilIface, cs)
theorem wpS_rec {P : Program} {Q : Exit → Act → List Frame → World → Prop} {a : Act} {cs cs' : List Frame} {w : World} {i d1 d2 n : Nat} {E : Env} {ty1 ty2 : TypeId} {p1 p2 : String} {af1 af2 : Array Edge} {rest : Code} {v : Value}
    (hf : Fr n E a) (hd1 : Nat.blt d1 n = true) (hd2 : Nat.blt d2 n = true) (hr : recOf cs = (v, cs')) (h : ∀ a', Fr n ((d2, v) :: (d1, v) :: E) a' → rest.wpS P Q a' cs' w) :
    (Code.seq (.region i #[⟨some d1, .call { callee := .builtin .recover, args := #[], argTypes := #[] }, ty1, p1, af1, none⟩, ⟨some d2, .assign (.tmp d1), ty2, p2, af2, none⟩] false) rest).wpS P Q a cs w := by
  obtain ⟨o1, ho1⟩ : ∃ o : Oper, o = ⟨some d1, .call { callee := .builtin .recover, args := #[], argTypes := #[] }, ty1, p1, af1, none⟩ := ⟨_, rfl⟩
  obtain ⟨o2, ho2⟩ : ∃ o : Oper, o = ⟨some d2, .assign (.tmp d1), ty2, p2, af2, none⟩ := ⟨_, rfl⟩
  rw [← ho1, ← ho2]
  have g1 : o1.guard = none := by rw [ho1]
  have g2 : o2.guard = none := by rw [ho2]
  have k1 : o1.dst = some d1 := by rw [ho1]
  have k2 : o2.dst = some d2 := by rw [ho2]
  have r1 : ∀ (a : Act) w, (execOp a.eval o1).run P w = .ok .recover w := fun a w => by rw [ho1]; simp [execOp, resolve, invoke, builtin]
  refine wpS_seq (wpS_region ?_)
  show wpOpsS P #[o1, o2] _ [0, 1] a cs w
  unfold wpOpsS
  rw [show (#[o1, o2])[0]? = some o1 from rfl]
  simp only
  rw [if_pos (by simp [Region.wanted, g1]), r1]
  simp only
  have key : ∀ cs', recOf cs = (v, cs') → ∀ a', Fr n ((d1, v) :: E) a' → (∀ a'', Fr n ((d2, v) :: (d1, v) :: E) a'' → rest.wpS P Q a'' cs' w) → wpOpsS P #[o1, o2] (Exit.thenS (rest.wpS P Q) Q) [1] a' cs' w := by
    intro cs' _ a' hf' h
    unfold wpOpsS
    rw [show (#[o1, o2])[1]? = some o2 from rfl]
    simp only
    have r2 : (execOp a'.eval o2).run P w = .ok (.value v) w := by
      rw [ho2]; simp [execOp, hf'.ev (x := .tmp d1) (v := v) (by simp [ev, lk])]
    rw [if_pos (by simp [Region.wanted, g2]), r2]
    simp only [Oper.upon]
    unfold wpOpsS
    refine h _ ?_
    rw [k2]; exact hf'.put hd2 v
  unfold recOf at hr
  rw [k1]
  split at hr
  · rename_i v1 cs1 hr1
    cases hr
    rw [hr1]
    exact key _ (by unfold recOf; rw [hr1]) _ (hf.put hd1 v) h
  · rename_i hr1
    cases hr
    rw [hr1]
    exact key _ (by unfold recOf; rw [hr1]) _ (hf.put hd1 _) h
end V
end Go.Proofs.Ytcgjlhhfldkdaaa
