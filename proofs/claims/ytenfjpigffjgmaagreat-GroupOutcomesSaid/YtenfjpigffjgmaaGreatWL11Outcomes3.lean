/- Parts: T9l T11d. -/
import Derived.Test.YtenfjpigffjgmaaGreatWL11Outcomes2
set_option linter.unusedSimpArgs false
set_option linter.unusedVariables false
set_option maxRecDepth 100000
namespace Go.Proofs.YtenfjpigffjgmaaGreat
open Go.RowKit
open Go.Proofs.Tryz
namespace V
set_option maxHeartbeats 4000000
section
variable {c : Cx} {E : Env} {R : Hp} {L : List Asn} {ty : TypeId} {p : String} {af : Array Edge} {g : Option (Nat × Bool)}
theorem Qg4 {d : Option Tmp} {x y : Operand} {t t' u : TypeId} {v : Value} {ms : Array (String × TypeId)} (hT : c.P.underlying t = some (.interface ms)) (e1 : ev E x = some (.iface u v)) (e2 : ev E y = some .nilIface) :
  Yld c E R L ⟨d, .binOp .neq t x y t', ty, p, af, g⟩ (.bool true) := fun a w hf _ => by
 have h : ∀ d : Nat, (Op.equalIn (d + 1) t (.iface u v) .nilIface).run c.P w = .ok false w := fun d => by simp [Op.equalIn, run_underlying hT]
 have h1 : (Op.equalIn Op.maxDepth t (.iface u v) .nilIface).run c.P w = .ok false w := h (Op.maxDepth - 1)
 simp [execOp, hf.ev e1, hf.ev e2, eqGuard, binOp, Op.equal, h1, Oper.quietUpon]
theorem QfR {d : Option Tmp} {x : Operand} {t t' : TypeId} {ms : Array (String × TypeId)} (hT : c.P.underlying t = some (.interface ms)) (e1 : ev E x = some .nilIface) :
  Yld c E R L ⟨d, .binOp .neq t x (.const .nilIface) t', ty, p, af, g⟩ (.bool false) := fun a w hf _ => by
 have h : ∀ d : Nat, (Op.equalIn (d + 1) t .nilIface .nilIface).run c.P w = .ok true w := fun d => by simp [Op.equalIn, run_underlying hT]
 have h1 : (Op.equalIn Op.maxDepth t .nilIface .nilIface).run c.P w = .ok true w := h (Op.maxDepth - 1)
 simp [execOp, hf.ev e1, hf.ev (x := .const .nilIface) rfl, eqGuard, binOp, Op.equal, h1, Oper.quietUpon]
theorem Qdq {d : Option Tmp} {x : Operand} {t u : TypeId} {b : Bool} {v r : Value} (hr : ∀ w, (Instr.typeAssert v t u b).run c.P w = .ok r w) (e1 : ev E x = some v) :
  Yld c E R L ⟨d, .typeAssert x t u b, ty, p, af, g⟩ r := fun a w hf _ => by
 simp [execOp, hf.ev e1, hr w, Oper.quietUpon]
theorem Qk1 {x : Code} {Q : Exit → Act → World → Prop} {a : Act} {w : World} (h : CJ c x Q E R L) (hf : Fr c.n E a) (hs : Sat c.σ R L w) : x.wp c.P Q a w := h a w hf hs
end
theorem Qkd {σ : World} {R : Hp} {L : List Asn} {w : World} (b4 : Nat) {v0 : Value} (hs : Sat σ R (blk b4 [v0] 98 :: L) w) :
  CallsD prog 86 ⟨[.pointer (some ⟨b4, 0, none⟩)]⟩ (.panicking [Qae]) w
   (fun e u' w' => (∃ v, e = .returned v) ∧ settle u' = .returning ∧ Sat σ R (blk b4 [.slice none 0 0] 98 :: L) w') := by
 refine callsD_of_wpS func86 rfl (fun c0 cs hu => ?_)
 rw [show f86.ntmps = 15 from rfl]
 have hf0 := Fr.start (n := 15) (args := [.pointer (some ⟨b4, 0, none⟩)]) rfl
 generalize ({ tmps := _, defers := [] } : Act) = a at hf0 ⊢
 have hrec : yT (c0 :: cs) = (.iface 156 (.agg ⟨[]⟩), { c0 with mode := .panicking [⟨.iface 156 (.agg ⟨[]⟩), true, false⟩] } :: cs) := by
  simp only [yT, recoverD, hu, Qae]
 refine Qgf hf0 rfl rfl hrec (fun a1 hf1 => ?_)
 clear hf0
 refine wpS_of_wp ?_
 refine Qk1 (c := ⟨prog, 15, σ⟩) ?_ hf1 hs
 refine Qd fun K1 hK1 => ?_
 refine Qc ?_
 refine Pm ?_
 refine Pa ((Qg4 underlying20 rfl rfl)) ?_
 refine Qe ?_
 refine hK1 _ _ _ ?_
 refine Qv rfl ?_
 refine Qd fun K2 hK2 => ?_
 refine Qd fun K3 hK3 => ?_
 refine Qc ?_
 refine Pm ?_
 refine Pa ((Qdq (r := .tuple ⟨[.agg ⟨[]⟩, .bool true]⟩) (fun w => by kernel_rfl) rfl)) ?_
 refine Pm ?_
 refine Pa (Qq rfl rfl) ?_
 refine Pa (Qq rfl rfl) ?_
 refine QA (wn0 rfl) rfl zeroValue156 rfl (fun b2 => ?_)
 refine Sm (vs := []) Qoa (by simp) ?_
 refine Ps ?_
 refine Qe ?_
 refine hK3 _ _ _ ?_
 refine Qd fun K4 hK4 => ?_
 refine Qc ?_
 refine Pm ?_
 refine Pa (Yq rfl) ?_
 refine Qe ?_
 refine hK4 _ _ _ ?_
 refine Qs rfl ?_
 refine Qj ?_
 refine hK2 _ _ _ ?_
 refine Qc ?_
 refine Sa o98 ?_
 refine Qe ?_
 exact fun a w hf hs => ⟨hf.dfs, _, rfl, .tuple ⟨[]⟩, by unfold results; rw [results86]; simp, ⟨_, rfl⟩, rfl, hs.sub sb_⟩
theorem QlX {σ : World} {R : Hp} {L : List Asn} {w : World} (b4 : Nat) (hs : Sat σ R L w) :
  CallsD prog 86 ⟨[.pointer (some ⟨b4, 0, none⟩)]⟩ .returning w
   (fun e u' w' => (∃ v, e = .returned v) ∧ settle u' = .returning ∧ Sat σ R L w') := by
 refine callsD_of_wpS func86 rfl (fun c0 cs hu => ?_)
 rw [show f86.ntmps = 15 from rfl]
 have hf0 := Fr.start (n := 15) (args := [.pointer (some ⟨b4, 0, none⟩)]) rfl
 generalize ({ tmps := _, defers := [] } : Act) = a at hf0 ⊢
 have hrec : yT (c0 :: cs) = (.nilIface, c0 :: cs) := by
  simp only [yT, recoverD, hu]
 have hc0 : c0 = { c0 with mode := .returning } := by rw [← hu]
 refine Qgf hf0 rfl rfl hrec (fun a1 hf1 => ?_)
 clear hf0
 refine wpS_of_wp ?_
 refine Qk1 (c := ⟨prog, 15, σ⟩) ?_ hf1 hs
 refine Qd fun K1 hK1 => ?_
 refine Qc ?_
 refine Pm ?_
 refine Pa ((QfR underlying20 rfl)) ?_
 refine Qe ?_
 refine hK1 _ _ _ ?_
 refine Qs rfl ?_
 refine Qj ?_
 exact fun a w hf hs => ⟨hf.dfs, .returning, by rw [← hc0], .tuple ⟨[]⟩, by unfold results; rw [results86]; simp, ⟨_, rfl⟩, rfl, hs.sub sb_⟩
theorem QmW {n : Nat} {σ : World} {fn : Func} {R R0 : Hp} {F L' : List Asn} {E : Env} {post : Value → Hp → List Asn → Prop} (b4 : Nat) (v : Value) {a : Act} {w : World} (hr : fn.results = ⟨[.cell 4 98]⟩) (hR : R0.le R)
  (e4 : lk E 4 = some (.pointer (some ⟨b4, 0, none⟩))) (hf : Fr n E a) (hs : Sat σ R (blk b4 [v] 98 :: (L' ++ F)) w) (hp : post v R L') :
  Qcj prog fn (Qcc σ R0 F post (fun _ _ _ => False)) { target := .fn (.func 86) ⟨[.pointer (some ⟨b4, 0, none⟩)]⟩, args := #[] } .normal a w :=
 ⟨hf.dfs, QbB (by simp) call86 (QlX b4 hs) (fun w' hs' => Qcv (c := ⟨prog, n, σ⟩) hr (.cons (Qbd o98 e4 (.head _) rfl) .nil) R L' hR rfl (.drop (.refl _)) hp hf hs')⟩
theorem Qlw {n : Nat} {σ : World} {fn : Func} {R R0 : Hp} {F L' : List Asn} {E : Env} {post : Value → Hp → List Asn → Prop} (b4 : Nat) {v0 : Value} {a : Act} {w : World} (hr : fn.results = ⟨[.cell 4 98]⟩) (hR : R0.le R)
  (e4 : lk E 4 = some (.pointer (some ⟨b4, 0, none⟩))) (hf : Fr n E a) (hs : Sat σ R (blk b4 [v0] 98 :: (L' ++ F)) w) (hp : post (.slice none 0 0) R L') :
  Qcj prog fn (Qcc σ R0 F post (fun _ _ _ => False)) { target := .fn (.func 86) ⟨[.pointer (some ⟨b4, 0, none⟩)]⟩, args := #[] } (.panic [Qae]) a w :=
 ⟨hf.dfs, QbB (by simp) call86 (Qkd b4 hs) (fun w' hs' => Qcv (c := ⟨prog, n, σ⟩) hr (.cons (Qbd o98 e4 (.head _) rfl) .nil) R L' hR rfl (.drop (.refl _)) hp hf hs')⟩
theorem QnZ {c : Cx} {ops : Array Oper} {Q Q2 : Exit → Act → World → Prop} {l : List Oper} {E : Env} {R : Hp} {L : List Asn} (h : RJ c ops Q l E R L) : EJ c (Exit.then (fun a w => wpList c.P ops Q l a w) Q2 .normal) E R L := h
theorem Qhh (A : Asn) (L F : List Asn) : Split (A :: (L ++ F)) L (A :: F) := by
 induction L with
 | nil => exact .nil _
 | cons B L ih => exact .cons (.tail (.head _)) ih
def qI (x : ND) (D : DK) (F : Bool × NS) : List Msg × NS := if Xm (x, D) = true then ([], (x, D)) else if F.1 = true then (F.2.1.out, F.2) else ([], F.2)
theorem jy (x : ND) (D : DK) (f : NS → Bool × NS) : Xn (x, D) f = qI x D (f ({ x with out := [] }, D)) := rfl
@[reducible] def Qk6 (b : NB) (G : List Msg × NS) (r : Value) (R' : Hp) (L' : List Asn) : Prop := ∃ v', FrX msgE R' G.1 r ∧ NOk R' v' G.2.1 ∧ L' = ndI b v' G.2.1 G.2.2
theorem jv (L : List Asn) {M N : List Asn} (h : Sub M N) : Sub (L ++ M) (L ++ N) := by
 induction L with
 | nil => exact h
 | cons A L ih => exact zP (.head _) ih
theorem jw (A : Asn) (L F : List Asn) : Sub (L ++ A :: F) (A :: (L ++ F)) := zP (Find.mid A L F) (.refl _)
theorem QlB {c : Cx} {ops : Array Oper} {Q : Exit → Act → World → Prop} {l : List Oper} {E : Env} {R : Hp} {L M : List Asn} (hs : Sub L M) (h : RJ c ops Q l E R M) : RJ c ops Q l E R L := fun a w hf s => h a w hf (s.sub hs)
theorem Qhl {R : Hp} (b : NB) (v : NV) (x : ND) (D : DK) (fk : FuncId) (caps : List Value) (Ex Ey : List Asn) (F0 : Bool × NS) (hc : ∀ args w, (callFunc fk args).run prog w = .ok (.enter fk args) w) (hv : NOk R v x)
   (hf : ∀ v2, NOk R v2 { x with out := [] } → Tri prog fk caps R (ndL b v2 { x with out := [] } D ++ Ex) (fun r R' L' => F0.1 = true ∧ ∃ v', NOk R' v' F0.2.1 ∧ L' = ndL b v' F0.2.1 F0.2.2 ++ Ey) (fun ch R' L' => F0.1 = false ∧ ch = [Qae] ∧ ∃ v', NOk R' v' F0.2.1 ∧ L' = ndL b v' F0.2.1 F0.2.2 ++ Ey)) (hE : ∀ F, Sub (Ex ++ F) (Ey ++ F)) :
   Tri prog 62 [.pointer (some ⟨b.x, 0, none⟩), .func (.func fk) ⟨[]⟩ ⟨caps⟩] R (ndI b v x D ++ Ex) (fun r R' L' => ∃ v', FrX msgE R' (qI x D F0).1 r ∧ NOk R' v' (qI x D F0).2.1 ∧ L' = ndI b v' (qI x D F0).2.1 (qI x D F0).2.2 ++ Ey) := by
 have hvN : NOk R (v.sent (.slice none 0 0) []) { x with out := [] } := ⟨hv.va, Els.nil, hv.vm, hv.vp, rfl, hv.map⟩
 refine Qeq func62 rfl ntmps62 rfl (fun σ F Q hret hend hpan hQ => ?_)
 try simp only [cB]
 refine Qd fun K1 hK1 => ?_
 refine Qc ?_
 refine QA (wn0 rfl) rfl zeroValue98 rfl (fun b4 => ?_)
 refine Qe ?_
 refine hK1 _ _ _ ?_
 refine Qd fun K2 hK2 => ?_
 refine Qd fun K3 hK3 => ?_
 refine Qc ?_
 refine Pm ?_
 refine Pa (Ca call37 (qL b v x D)) ?_
 refine Qe ?_
 refine hK3 _ _ _ ?_
 refine Qm rfl (fun hc6 => ?_) (fun hc6 => ?_)
 ·have f1 : Xm (x, D) = true := hc6
  have hG : qI x D F0 = ([], (x, D)) := by unfold qI; rw [if_pos f1]
  refine Qd fun K5 hK5 => ?_
  refine Xi (M := blk b4 [.slice none 0 0] 98 :: (ndI b v x D ++ (Ey ++ F))) (zP fd_ (jv (ndI b v x D) (hE F))) ?_
  try simp only [cB]
  refine Qc ?_
  refine Sa o98 ?_
  refine Qe ?_
  refine hK5 _ _ _ ?_
  refine Qi ?_
  refine hret _ _ _ ?_
  apply XL results62 (.cons (Qbd o98 rfl fd_ rfl) .nil) _ (ndI b v x D ++ Ey) (Hp.le_refl _) rfl
  case hp => rw [hG]; exact ⟨v, FrX.nil, hv, rfl⟩
  case hS => exact sb_
 ·have f1 : ¬ Xm (x, D) = true := by simpa using hc6
  refine Qj ?_
  refine hK2 _ _ _ ?_
  refine Qd fun K6 hK6 => ?_
  refine Qc ?_
  refine Pm ?_
  refine Pa (Qf rfl) ?_
  refine Pa (Ga underlying109 sizeOf98) ?_
  refine Sa o98 ?_
  refine Qe ?_
  refine hK6 _ _ _ ?_
  refine QfF (A := XQ (v.sent (.slice none 0 0) []) { x with out := [] }) (Yr _ _) ?_
  refine Qjj hQ rfl rfl ?_
  refine Pm ?_
  refine QeR (wn0 rfl) rfl rfl hc rfl (hf (v.sent (.slice none 0 0) []) hvN) (pre := ndL b (v.sent (.slice none 0 0) []) { x with out := [] } D ++ Ex) (F := blk b4 [.slice none 0 0] 98 :: F) ?_ ?_ ?_
  · exact .cons fd_ (.cons fd_ (.cons fd_ (.cons fd_ (.cons fd_ (.cons fd_ (.cons fd_ (Qhh _ _ _)))))))
  · rintro ch Rp Lp hRp ⟨hF1, rfl, v2, hv2, rfl⟩
    have hG : qI x D F0 = ([], F0.2) := by unfold qI; rw [if_neg f1, if_neg (by rw [hF1]; simp)]
    intro a w hf hs
    replace hs := hs.sub (jw _ _ _)
    refine Qlw b4 results62 hRp rfl hf (L' := ndI b v2 F0.2.1 F0.2.2 ++ Ey) (hs.sub sb_) ?_
    rw [hG]; exact ⟨v2, FrX.nil, hv2, rfl⟩
  · rintro r R' L' hR' ⟨hF1, v2, hv2, rfl⟩
    have hG : qI x D F0 = (F0.2.1.out, F0.2) := by unfold qI; rw [if_neg f1, if_pos hF1]
    refine QlB (jw _ _ _) ?_
    try simp only [cB]
    refine Qe ?_
    refine QnZ ?_
    refine Pm ?_
    refine Pa (Qf rfl) ?_
    refine Pa (Ga underlying109 sizeOf98) ?_
    refine Pa (La o98) ?_
    refine QeP o98 (wn0 rfl) rfl rfl hv2.vo fd_ rfl rfl ?_
    refine Yd (e := 117) (sz := 10) (n := F0.2.1.out.length) (v := v2.vo) (xs := v2.css.flatten) fd_ (fun R9 hR9 hfr hxl => ?_)
    have hfx : FrX msgE R9 F0.2.1.out v2.vo := FrozenS.frx hfr (hv2.out.mono hR9)
    refine Qe ?_
    intro a w hf hs
    refine QmW b4 v2.vo results62 (Hp.le_trans hR' hR9) rfl hf (L' := ndI b v2 F0.2.1 F0.2.2 ++ Ey) (hs.sub sb_) ?_
    rw [hG]; exact ⟨v2, hfx, hv2.mono hR9, rfl⟩
theorem Tri.pre {P : Program} {f : FuncId} {args : List Value} {R : Hp} {L L' : List Asn} {post : Value → Hp → List Asn → Prop} {pan : List PanicEntry → Hp → List Asn → Prop} (h : Tri P f args R L post pan) (hs : ∀ F, Sub (L' ++ F) (L ++ F)) : Tri P f args R L' post pan :=
 fun σ F w s => h σ F w (s.sub (hs F))
theorem NIn.out0 {k : Nat} {x : ND} (h : NIn k x) : NIn k { x with out := [] } :=
 ⟨h.idn, h.term, h.vote, h.base, h.baseT, h.state, h.alln, h.all, h.commit, h.patience, h.peers, h.peer, h.votes, by show 0 ≤ _; omega⟩
theorem QmI {R : Hp} (b : NB) (v : NV) (x : ND) (D : DK) (k n : Nat) (hk : k ≤ 40) (hx : NIn k x) (hv : NOk R v x) (hD : D.ok n) (hn : n ≤ 700000000) :
  Tri prog 50 [.pointer (some ⟨b.x, 0, none⟩)] R (ndI b v x D) (Qk6 b (Xn (x, D) tickN)) := by
 rw [jy]
 refine Qn func50 rfl ntmps50 rfl (fun σ F Q hret hend hpan => ?_)
 try simp only [cB]
 refine Qd fun K1 hK1 => Qc ?_
 refine Xa (wn0 rfl) rfl rfl rfl (fun bX => ?_)
 refine Ps (Qe (hK1 _ _ _ (Qd fun K2 hK2 => Qc ?_)))
 refine Pa (La o56) ?_
 refine Pa (YB rfl rfl) ?_
 refine Ra call62 (Qhl b v x D 68 [.pointer (some ⟨bX, 0, none⟩)] [blk bX [.pointer (some ⟨b.x, 0, none⟩)] 56] [] (tickN ({ x with out := [] }, D)) call68 hv (fun v2 hv2 => Tri.pre (Qlh b v2 { x with out := [] } D k n bX hk hx.out0 hv2 hD (by omega)) (fun F => by (repeat (first|exact zR _|(apply zP;focus (repeat (first|exact zH _|apply zT)))|apply zD|exact zA _ _)))) (fun F => by (repeat (first|exact zR _|(apply zP;focus (repeat (first|exact zH _|apply zT)))|apply zD|exact zA _ _)))) ?_
 rintro r R2 L' hR2 ⟨v2, hr, hv2, rfl⟩
 have hro := hr.one
 try simp only [cB]
 refine Ps (Qe (hK2 _ _ _ (Qi (hret _ _ _ ?_))))
 apply XL results50 (.cons (Qh rfl) .nil) _ (ndI b v2 _ _) hR2 rfl
 case hp => exact ⟨v2, hr, hv2, rfl⟩
 case hS => exact sb_
theorem QiE {R : Hp} (b : NB) (v : NV) (x : ND) (D : DK) (m : Msg) (ve : Value) (k n : Nat) (hk : k ≤ 40) (hx : NIn k x) (hv : NOk R v x) (hm : MIm k m) (hve : FrX entE R m.es ve) (hD : D.ok n) (hn : n ≤ 700000000) :
  Tri prog 53 [.pointer (some ⟨b.x, 0, none⟩), .agg ⟨QT m ve⟩] R (ndI b v x D) (Qk6 b (Xn (x, D) (fun s => Xk s m))) := by
 rw [jy]
 have hveo := hve.one
 refine Qn func53 rfl ntmps53 rfl (fun σ F Q hret hend hpan => ?_)
 try simp only [cB]
 refine Qd fun K1 hK1 => Qc ?_
 refine Xa (wn0 rfl) rfl rfl rfl (fun bX => ?_)
 refine Xa (wn0 rfl) rfl rfl rfl (fun bM => ?_)
 refine Ps (Qe (hK1 _ _ _ (Qd fun K2 hK2 => Qc ?_)))
 refine Pa (La o56) ?_
 refine Pa (YB rfl rfl) ?_
 refine Ra call62 (Qhl b v x D 73 [.pointer (some ⟨bM, 0, none⟩), .pointer (some ⟨bX, 0, none⟩)] [blk bX [.pointer (some ⟨b.x, 0, none⟩)] 56, blk bM (QT m ve) 117] [] (Xk ({ x with out := [] }, D) m) call73 hv (fun v2 hv2 => Tri.pre (Qhx b v2 { x with out := [] } D m ve k n bX bM hk hx.out0 hv2 hm hve hD hn) (fun F => by (repeat (first|exact zR _|(apply zP;focus (repeat (first|exact zH _|apply zT)))|apply zD|exact zA _ _)))) (fun F => by (repeat (first|exact zR _|(apply zP;focus (repeat (first|exact zH _|apply zT)))|apply zD|exact zA _ _)))) ?_
 rintro r R2 L' hR2 ⟨v2, hr, hv2, rfl⟩
 have hro := hr.one
 try simp only [cB]
 refine Ps (Qe (hK2 _ _ _ (Qi (hret _ _ _ ?_))))
 apply XL results53 (.cons (Qh rfl) .nil) _ (ndI b v2 _ _) hR2 rfl
 case hp => exact ⟨v2, hr, hv2, rfl⟩
 case hS => exact sb_
theorem Qkv {k : Nat} (hk : k ≤ 90) {x : ND} {D : DK} {cmd : Bs} (hx : NIn k x) (hc : cmd.length ≤ 100) (h : (QQ (x, D) cmd).1 = true) : NIn (k + 2) (QQ (x, D) cmd).2.1 := by
 have hterm := hx.term
 unfold QQ QU QP at h ⊢
 dsimp only at h ⊢
 by_cases he : (x.g.addD D x.g.last [(x.g.term, cmd)]).1 = 0
 ·simp only [if_pos he, ite_true] at h ⊢
  rw [Qbq he, Xo]
  have h1 := hx.add (i := x.g.last) (m := [(x.g.term, cmd)]) (fun e he => by simp at he; subst he; exact ⟨⟨by omega, by omega⟩, hc⟩) (by simp)
  have h2 := NIn.count (by omega) h1
  refine h2.sends _ ?_
  rw [List.length_map]
  have h3 := h2.idn.2
  have h4 := yf (ND.count { x with g := x.g.play (.add x.g.last [(x.g.term, cmd)]) }).id (ND.count { x with g := x.g.play (.add x.g.last [(x.g.term, cmd)]) }).n
  show (Yj _ _).length ≤ 20
  omega
 ·simp only [if_neg he] at h
  simp at h
def Xz (s : NS) (cmd : Bs) : (Int × Int × List Msg) × NS :=
 if ¬ s.1.role = 2 then ((0, 0, []), s) else if Xm (Xn s (fun s => QQ s cmd)).2 = true then ((0, 0, []), (Xn s (fun s => QQ s cmd)).2)
 else (((Xn s (fun s => QQ s cmd)).2.1.g.last, (Xn s (fun s => QQ s cmd)).2.1.g.term, (Xn s (fun s => QQ s cmd)).1), (Xn s (fun s => QQ s cmd)).2)
theorem QmX {k : Nat} {x : ND} {D : DK} {f : NS → Bool × NS} (hf : (f ({ x with out := [] }, D)).1 = true → NIn k (f ({ x with out := [] }, D)).2.1) (hl : (f ({ x with out := [] }, D)).1 = false → (f ({ x with out := [] }, D)).2.1.down = true) (h : ¬ Xm (Xn (x, D) f).2 = true) : NIn k (Xn (x, D) f).2.1 := by
 rw [jy] at h ⊢
 unfold qI at h ⊢
 by_cases h1 : Xm (x, D) = true
 ·rw [if_pos h1] at h; exact absurd h1 h
 ·rw [if_neg h1] at h ⊢
  by_cases h2 : (f ({ x with out := [] }, D)).1 = true
  ·rw [if_pos h2]; exact hf h2
  ·rw [if_neg h2] at h
   have := hl (by simpa using h2)
   exact absurd (by unfold Xm; rw [this]; rfl) h
theorem QiV {s : NS} {r : Int × LG × DK} (h : (QP s r).1 = false) : (QP s r).2.1.down = true := by
 unfold QP at h ⊢
 split at h
 ·cases h
 ·rename_i h1; rw [if_neg h1]
theorem Qjm {r : Bool × NS} {k : NS → Bool × NS} (hr : r.1 = false → r.2.1.down = true) (hk : r.1 = true → (k r.2).1 = false → (k r.2).2.1.down = true) (h : (QU r k).1 = false) : (QU r k).2.1.down = true := by
 unfold QU at h ⊢
 by_cases h1 : r.1 = true
 ·rw [if_pos h1] at h ⊢; exact hk h1 h
 ·rw [if_neg h1] at h ⊢; exact hr h
theorem QhY {s : NS} {cmd : Bs} (h : (QQ s cmd).1 = false) : (QQ s cmd).2.1.down = true :=
 Qjm QiV (fun _ h => by cases h) h
theorem QiL {R : Hp} (b : NB) (v : NV) (x : ND) (D : DK) (cmd : Bs) (k n : Nat) (hk : k ≤ 40) (hx : NIn k x) (hv : NOk R v x) (hc : cmd.length ≤ 100) (hD : D.ok n) (hn : n ≤ 700000000) :
  Tri prog 43 [.pointer (some ⟨b.x, 0, none⟩), .string (str cmd)] R (ndI b v x D)
   (fun r R' L' => ∃ vl v', r = QF [.int .u64 (Xz (x, D) cmd).1.1, .int .u64 (Xz (x, D) cmd).1.2.1, vl] ∧ FrX msgE R' (Xz (x, D) cmd).1.2.2 vl ∧ NOk R' v' (Xz (x, D) cmd).2.1 ∧ L' = ndI b v' (Xz (x, D) cmd).2.1 (Xz (x, D) cmd).2.2) := by
 obtain ⟨G, hG⟩ : ∃ G, G = Xn (x, D) (fun s => QQ s cmd) := ⟨_, rfl⟩
 refine Qn func43 rfl ntmps43 rfl (fun σ F Q hret hend hpan => ?_)
 try simp only [cB]
 refine Qd fun K1 hK1 => Qc ?_
 refine Xa (wn0 rfl) rfl rfl rfl (fun bX => ?_)
 refine Xa (wn0 rfl) rfl rfl rfl (fun bC => ?_)
 refine Ps (Ps (Ps (Qe (hK1 _ _ _ (Qd fun K2 hK2 => Qd fun K3 hK3 => Qc ?_)))))
 refine Pa (La o56) ?_
 refine Pa (Ca call38 (QbS b v x)) ?_
 refine Pa (XU rfl rfl) (Qe (hK3 _ _ _ ?_))
 refine Qm rfl (fun hc10 => ?_) (fun hc10 => ?_)
 have f1 : ¬ x.role = 2 := by simpa using hc10
 have hP : Xz (x, D) cmd = ((0, 0, []), (x, D)) := by unfold Xz; rw [if_pos f1]
 refine Qd fun K5 hK5 => Qc (Ps (Ps (Ps (Qe (hK5 _ _ _ (Qi (hret _ _ _ ?_)))))))
 refine Ea results43 (.cons (Qh rfl) (.cons (Qh rfl) (.cons (Qh rfl) .nil))) (ndI b v x D) (by first | exact Hp.le_refl _ | assumption) ?_
 rw [hP]; exact ⟨_, v, rfl, FrX.nil, hv, rfl⟩
 have f1 : x.role = 2 := by simpa using hc10
 refine Qj (hK2 _ _ _ (Qd fun K6 hK6 => Qc ?_))
 refine Pa (La o56) ?_
 refine Pa (YB rfl rfl) ?_
 refine Ra call62 (Qhl b v x D 63 [.pointer (some ⟨bX, 0, none⟩), .pointer (some ⟨bC, 0, none⟩)] [blk bX [.pointer (some ⟨b.x, 0, none⟩)] 56, blk bC [.string (str cmd)] 9] [blk bX [.pointer (some ⟨b.x, 0, none⟩)] 56, blk bC [.string (str cmd)] 9] (QQ ({ x with out := [] }, D) cmd) call63 hv (fun v2 hv2 => Tri.pre (QhC b v2 { x with out := [] } D cmd k n bX bC hk hx.out0 hv2 f1 hc hD hn) (fun F => by (repeat (first|exact zR _|(apply zP;focus (repeat (first|exact zH _|apply zT)))|apply zD|exact zA _ _)))) (fun F => by (repeat (first|exact zR _|(apply zP;focus (repeat (first|exact zH _|apply zT)))|apply zD|exact zA _ _)))) ?_
 rintro r R2 L' hR2 ⟨v2, hr, hv2, rfl⟩
 have hro := hr.one
 have hGR : qI x D (QQ ({ x with out := [] }, D) cmd) = G := by rw [hG]; rfl
 rw [hGR] at hr hv2 ⊢
 try simp only [cB]
 refine Ps (Qe (hK6 _ _ _ (Qd fun K7 hK7 => Qd fun K8 hK8 => Qc ?_)))
 refine Pa (La o56) ?_
 refine Pa (Ca call37 (qL b v2 G.2.1 G.2.2)) (Qe (hK8 _ _ _ ?_))
 refine Qm rfl (fun hc15 => ?_) (fun hc15 => ?_)
 have g1 : Xm G.2 = true := hc15
 have hP : Xz (x, D) cmd = ((0, 0, []), G.2) := by unfold Xz; rw [if_neg (by simp [f1]), ← hG, if_pos g1]
 refine Qd fun K10 hK10 => Qc (Ps (Ps (Ps (Qe (hK10 _ _ _ (Qi (hret _ _ _ ?_)))))))
 refine Ea results43 (.cons (Qh rfl) (.cons (Qh rfl) (.cons (Qh rfl) .nil))) (ndI b v2 G.2.1 G.2.2) (by first | exact Hp.le_refl _ | assumption) ?_
 rw [hP]; exact ⟨_, v2, rfl, FrX.nil, hv2, rfl⟩
 have g1 : ¬ Xm G.2 = true := by simpa using hc15
 have hP : Xz (x, D) cmd = ((G.2.1.g.last, G.2.1.g.term, G.1), G.2) := by unfold Xz; rw [if_neg (by simp [f1]), ← hG, if_neg g1]
 have hGi : NIn (k + 2) G.2.1 := by rw [hG] at g1 ⊢; exact QmX (fun h => Qkv (by omega) hx.out0 hc h) (fun h => QhY h) g1
 have hgG := hGi.g (by omega)
 refine Qj (hK7 _ _ _ (Qd fun K11 hK11 => ?_))
 refine Xr (by kernel_rfl) (by kernel_rfl) ?_
 refine Qa (La o56) ?_
 refine Qa (Qf rfl) ?_
 refine Qa (Ga underlying109 sizeOf55) ?_
 refine Qa (La o55) ?_
 refine Qa (Ca call60 (YC b.l (some ⟨b.d, 0, none⟩) v2.va G.2.1.g hgG hv2.va)) ?_
 refine Qa (La o56) ?_
 refine Qa (Qf rfl) ?_
 refine Qa (Ga underlying109 sizeOf55) ?_
 refine Qa (La o55) ?_
 refine Qa (Ca call24 (YV b.l (some ⟨b.d, 0, none⟩) v2.va G.2.1.g)) ?_
 refine Qa (Qg rfl) ?_
 refine Qa (Xj rfl) ?_
 refine Qa (Xj rfl) ?_
 refine Qa (Xj rfl) ?_
 refine Xb ?_
 refine hK11 _ _ _ ?_
 refine Ql (eL 4 rfl (eL 5 rfl (eL 6 rfl eN))) ?_
 refine Qi (hret _ _ _ ?_)
 refine Ea results43 (.cons (Qh rfl) (.cons (Qh rfl) (.cons (Qh rfl) .nil))) (ndI b v2 G.2.1 G.2.2) (by first | exact Hp.le_refl _ | assumption) ?_
 rw [hP]; exact ⟨_, v2, rfl, hr, hv2, rfl⟩
def Ym (s : NS) (i : Int) (t : Bs) : Int × NS :=
 if Xm s = true then (3, s) else if i > s.1.commit then (1, s) else ((s.1.g.compD s.2 i t).1, ({ s.1 with g := (s.1.g.compD s.2 i t).2.1 }, (s.1.g.compD s.2 i t).2.2))
theorem Qf0 {R : Hp} (b : NB) (v : NV) (x : ND) (D : DK) (i : Int) (t : Bs) (k n : Nat) (hk : k ≤ 40) (hx : NIn k x) (hv : NOk R v x) (hi : QM i) (ht : t.length ≤ 1000000) (hD : D.ok n) :
  Tri prog 54 [.pointer (some ⟨b.x, 0, none⟩), .int .u64 i, .string (str t)] R (ndI b v x D)
   (fun r R' L' => r = .int .i64 (Ym (x, D) i t).1 ∧ ∃ v', NOk R' v' (Ym (x, D) i t).2.1 ∧ L' = ndI b v' (Ym (x, D) i t).2.1 (Ym (x, D) i t).2.2) := by
 have hg := hx.g (by omega)
 have hbs := hx.base
 have hle : x.g.last = x.g.base + x.g.all.length := rfl
 have hal := hx.alln
 have hen := jJ (fun e he => (hx.all e he).2)
 refine Qn func54 rfl ntmps54 rfl (fun σ F Q hret hend hpan => ?_)
 try simp only [cB]
 refine Qd fun K1 hK1 => Qc (Ps (Qe (hK1 _ _ _ (Qd fun K2 hK2 => Qp (Qd fun K3 hK3 => Qc ?_)))))
 refine Pm ?_
 refine Pa (Ca call37 (qL b v x D)) (Ps (Qe (hK3 _ _ _ ?_)))
 refine Qm rfl (fun hc7 => ?_) (fun hc7 => ?_)
 have f1 : Xm (x, D) = true := hc7
 have hP : Ym (x, D) i t = (3, (x, D)) := by unfold Ym; rw [if_pos f1]
 refine Qd fun K5 hK5 => Qc (Ps (Qe (hK5 _ _ _ (Qi (hret _ _ _ ?_)))))
 refine Ea results54 (.cons (Qh rfl) .nil) (ndI b v x D) (by first | exact Hp.le_refl _ | assumption) ?_
 rw [hP]; exact ⟨rfl, v, hv, rfl⟩
 have f1 : ¬ Xm (x, D) = true := by simpa using hc7
 refine Qd fun K6 hK6 => Qc (Pm (Pm ?_))
 refine Pa (Qf rfl) ?_
 refine Pa (Ga underlying109 sizeOf36) ?_
 refine Pa (La o36) ?_
 refine Pa (Xs rfl rfl) (Ps (Qe (hK6 _ _ _ ?_)))
 refine Qm rfl (fun hc10 => ?_) (fun hc10 => ?_)
 have f2 : i > x.commit := by (try simp at hc10); omega
 have hP : Ym (x, D) i t = (1, (x, D)) := by unfold Ym; rw [if_neg f1, if_pos f2]
 refine Qd fun K8 hK8 => Qc (Ps (Qe (hK8 _ _ _ (Qi (hret _ _ _ ?_)))))
 refine Ea results54 (.cons (Qh rfl) .nil) (ndI b v x D) (by first | exact Hp.le_refl _ | assumption) ?_
 rw [hP]; exact ⟨rfl, v, hv, rfl⟩
 have f2 : ¬ i > x.commit := by (try simp at hc10); omega
 obtain ⟨ra, hra⟩ : ∃ r, r = x.g.compD D i t := ⟨_, rfl⟩
 have hP : Ym (x, D) i t = (ra.1, ({ x with g := ra.2.1 }, ra.2.2)) := by unfold Ym; rw [if_neg f1, if_neg f2, hra]
 refine Qj (hK2 _ _ _ (Qd fun K9 hK9 => Qc (Pm ?_)))
 refine Pa (Qf rfl) ?_
 refine Pa (Ga underlying109 sizeOf55) ?_
 refine Pa (La o55) (Pm (Pm ?_))
 refine Ra call80 (QbA b.l b.d v.va v.u x.g D n i t hg hi hv.va ht (by omega) (by omega) hD) ?_
 rintro r R4 L' hR4 ⟨rfl, u2, va2, hva2, rfl⟩
 rw [← hra] at hva2 ⊢
 try simp only [cB]
 refine Ps (Qe (hK9 _ _ _ ?_))
 refine Ql (eL 6 rfl eN) ?_
 refine Qi (hret _ _ _ ?_)
 refine Ea results54 (.cons (Qh rfl) .nil) (ndI b (v.logd u2 va2) { x with g := ra.2.1 } ra.2.2) (by first | exact Hp.le_refl _ | assumption) ?_
 rw [hP]; exact ⟨rfl, v.logd u2 va2, hv.logd (y := { x with g := ra.2.1 }) hR4 ⟨rfl, rfl⟩ hva2, rfl⟩
def NV.new (u va : Value) : NV := ⟨u, va, .map none, .slice none 0 0, .slice none 0 0, []⟩
theorem Qlm {R : Hp} (l d id n : Nat) (u va : Value) (g : LG) (D : DK) (hn : id < n ∧ n ≤ 9) (hva : FrX entE R g.all va) :
  Tri prog 57 [.int .i64 (id : Int), .int .i64 (n : Int), .pointer (some ⟨l, 0, none⟩)] R [lgB l (some ⟨d, 0, none⟩) va g, dkB d u D, dkS u D]
   (fun r R' L' => ((g.down || D.down) = true ∧ r = QF [.pointer none, .int .i64 3] ∧ L' = [lgB l (some ⟨d, 0, none⟩) va g, dkB d u D, dkS u D]) ∨
    (¬ (g.down || D.down) = true ∧ ∃ bx, r = QF [.pointer (some ⟨bx, 0, none⟩), .int .i64 0] ∧ NOk R' (NV.new u va) (ND.start id n g) ∧ L' = ndI ⟨bx, l, d⟩ (NV.new u va) (ND.start id n g) D)) := by
 refine Qn func57 rfl ntmps57 rfl (fun σ F Q hret hend hpan => ?_)
 try simp only [cB]
 refine Qd fun K1 hK1 => Qc (Ps (Ps (Qe (hK1 _ _ _ (Qd fun K2 hK2 => Qp (Qd fun K3 hK3 => Qc ?_))))))
 refine Pm ?_
 refine Pa ((Yld.to (u := .bool false) (QO rfl rfl) (by rw [decide_eq_false (by omega)]))) ?_
 refine Pm ?_
 refine Pb (Qg rfl) ?_
 refine Pb ((Yld.to (u := .bool false) (Xs rfl rfl) (by rw [decide_eq_false (by omega)]))) ?_
 refine Pa (Qo rfl rfl) (Pm ?_)
 refine Pb (Qg rfl) ?_
 refine Pb ((Yld.to (u := .bool false) (QO rfl rfl) (by rw [decide_eq_false (by omega)]))) ?_
 refine Pa (Qo rfl rfl) (Pm ?_)
 refine Pb (Qg rfl) ?_
 refine Pb (Qg rfl) ?_
 refine Pb ((Yld.to (u := .bool false) (YX rfl rfl) (by rw [decide_eq_false (by omega)]))) ?_
 refine Pa (Qo rfl rfl) (Ps (Qe (hK3 _ _ _ ?_)))
 refine Ql (eL 0 rfl (eL 1 rfl (eL 2 rfl (eL 11 rfl eN)))) ?_
 refine Qs rfl (Qd fun K4 hK4 => Qc (Pm ?_))
 refine Pa (Ca call59 (yv l d va u g D)) (Ps (Qe (hK4 _ _ _ ?_)))
 refine Qm rfl (fun hc27 => ?_) (fun hc27 => ?_)
 have f1 : (g.down || D.down) = true := hc27
 refine Qd fun K6 hK6 => Qc (Ps (Ps (Qe (hK6 _ _ _ (Qi (hret _ _ _ ?_))))))
 refine Ea results57 (.cons (Qh rfl) (.cons (Qh rfl) .nil)) [lgB l (some ⟨d, 0, none⟩) va g, dkB d u D, dkS u D] le_ ?_
 exact .inl ⟨f1, rfl, rfl⟩
 have f1 : ¬ (g.down || D.down) = true := by simpa using hc27
 refine Qj (hK2 _ _ _ (Qd fun K7 hK7 => Qc (Pm ?_)))
 refine Pa (Ca call25 (yw l (some ⟨d, 0, none⟩) va g)) (Pm ?_)
 refine Pa (Qq rfl rfl) ?_
 refine Pa (Qq rfl rfl) ?_
 refine Pa (Qq rfl rfl) (Ps (Ps (Ps (Qe (hK7 _ _ _ (Qd fun K8 hK8 => Qc ?_))))))
 refine Pm (Pm (Pm (Pm ?_)))
 refine Pa (QV (cells := [_, _, _, _, _, _, _, _, _, _, _]) [(0, 1), (1, 1), (2, 1), (3, 1), (4, 1), (5, 1), (6, 1), (7, 1), (8, 1), (9, 1), (10, 1)] underlying109 zeroValue109 (fun _ => rfl) rfl rfl) ?_
 refine Xa (wn0 rfl) rfl rfl rfl (fun bx => ?_)
 refine Ps (Ps ?_)
 refine YR (A := prA (NV.new u va) (ND.start id n g)) (Yr _ _) ?_
 refine YR (A := mpA (NV.new u va).vm (ND.start id n g).votes) (fun _ => trivial) ?_
 refine Qe (hK8 _ _ _ ?_)
 refine Ql (eL 6 rfl (eL 7 rfl eN)) ?_
 refine Qi (hret _ _ _ ?_)
 refine Ea results57 (.cons (Qh rfl) (.cons (Qh rfl) .nil)) (ndI ⟨bx, l, d⟩ (NV.new u va) (ND.start id n g) D) le_ ?_
 exact .inr ⟨f1, bx, rfl, ⟨hva, Els.nil, rfl, rfl, rfl, fun h => absurd (show (0 : Int) = 1 from h) (by decide)⟩, rfl⟩
def DKh (D : DK) : Prop := D.down = false ∧ D.bound = false
theorem QaD {D : DK} (h : DKh D) : D.step = (true, D) := by unfold DK.step; simp [h.1, h.2]
theorem QkT {D : DK} (h : DKh D) (s : Bs) : (D.put s).1 = 0 ∧ DKh (D.put s).2 ∧ (D.put s).2.b = D.b ++ s ∧ (D.put s).2.sure = (D.b ++ s).length := by
 have e2 : D.append s = (0, { D with b := D.b ++ s }) := by unfold DK.append; rw [QaD h]; rfl
 have e3 : D.put s = (0, { D with b := D.b ++ s, sure := (D.b ++ s).length }) := by
  unfold DK.put
  rw [e2]
  simp only [ite_true]
  unfold DK.sync
  rw [QaD (D := { D with b := D.b ++ s }) h]; rfl
 rw [e3]
 exact ⟨rfl, h, rfl, rfl⟩
theorem Qex {D : DK} (h : DKh D) (s : Bs) : (D.swap s).1 = 0 ∧ DKh (D.swap s).2 ∧ (D.swap s).2.b = s ∧ (D.swap s).2.sure = s.length := by
 unfold DK.swap
 rw [QaD h]
 exact ⟨rfl, h, rfl, rfl⟩
theorem Qnz {g : LG} {D : DK} (hg : g.down = false) (h : DKh D) {i : Int} {m : List Ent} (hi : g.base ≤ i ∧ i ≤ g.last) : (g.addD D i m).1 = 0 ∧ (g.addD D i m).2.1 = g.play (.add i m) ∧ (g.addD D i m).2.2 = (D.put (Rec.add i m).bytes).2 := by
 have hp := QkT h (Rec.add i m).bytes
 unfold LG.addD
 rw [if_neg (by simp [hg, h.1]), if_neg (by omega), if_pos hp.1]
 exact ⟨rfl, rfl, rfl⟩
theorem QmS {g : LG} {D : DK} (hg : g.down = false) (h : DKh D) {t v : Int} (ht : g.term ≤ t) (hv : -1 ≤ v) : (g.setTermD D t v).1 = 0 ∧ (g.setTermD D t v).2.1 = { g with term := t, vote := v } ∧ (g.setTermD D t v).2.2 = (D.put (Rec.term t v).bytes).2 := by
 have hp := QkT h (Rec.term t v).bytes
 unfold LG.setTermD
 rw [if_neg (by simp [hg, h.1]), if_neg (by omega), if_pos hp.1]
 exact ⟨rfl, rfl, rfl⟩
theorem Ql1 {g : LG} {D : DK} (hg : g.down = false) (h : DKh D) {i t : Int} {s : Bs} (hi : g.base < i) : (g.instD D i t s).1 = 0 ∧ (g.instD D i t s).2.1 = g.inst i t s ∧ ∃ to, (g.instD D i t s).2.2 = (D.swap (Rec.all to).bytes).2 ∧ to = g.inst i t s := by
 unfold LG.instD LG.inst
 rw [if_neg (by simp [hg, h.1]), if_neg (by omega)]
 by_cases h1 : g.termAt i = some t
 ·have h2 : i ≤ g.last := by
   unfold LG.termAt at h1
   rw [if_neg (by omega)] at h1
   unfold LG.at at h1
   split at h1
   ·rename_i h3; exact h3.2
   ·cases h1
  rw [if_pos h1, if_pos h1]
  unfold LG.compD
  rw [if_neg (by simp [hg, h.1]), if_neg (by omega)]
  unfold LG.swapD
  rw [if_pos (Qex h _).1]
  exact ⟨rfl, rfl, _, rfl, rfl⟩
 ·rw [if_neg h1, if_neg h1]
  unfold LG.swapD
  rw [if_pos (Qex h _).1]
  exact ⟨rfl, rfl, _, rfl, rfl⟩
theorem LD.mono2 {n m : Nat} {g : LG} {D : DK} (h : LD n g D) (hm : n ≤ m) : LD m g D := by
 obtain ⟨h1, h2, h3, h4, h5, h6, h7⟩ := h
 exact ⟨h1, h2, h3, h4, h5, by omega, h7⟩
def Hs (n : Nat) (r : Bool × NS) (y : ND) : Prop := r.1 = true ∧ r.2.1 = y ∧ LD n y.g r.2.2
theorem LD.h {n : Nat} {g : LG} {D : DK} (h : LD n g D) : DKh D := ⟨h.1, h.2.1⟩
theorem Qe5 {n k : Nat} {x : ND} {D : DK} (hk : k ≤ 90) (hl : LD n x.g D) (hx : NIn k x) {i : Int} {m : List Ent} (hi : x.g.base ≤ i ∧ i ≤ x.g.last) (hm : ∀ e ∈ m, (0 ≤ e.1 ∧ e.1 ≤ 2305843009213693952 + k) ∧ e.2.length ≤ 100) (hn : m.length ≤ 20) :
  Hs (n + 3000) (QP (x, D) (x.g.addD D i m)) { x with g := x.g.play (.add i m) } := by
 have hgd : x.g.down = false := hl.2.2.2.2.1
 obtain ⟨h1, h2, h3⟩ := Qnz hgd hl.h (m := m) hi
 have hg2 := (hx.add (i := i) hm hn).g (by omega)
 have hb := hx.base
 have hal := hx.alln
 have hle : x.g.last = x.g.base + x.g.all.length := rfl
 have hen := jJ (fun e he => (hm e he).2)
 have hmb : ∀ e ∈ m, QM e.1 ∧ e.2.length ≤ 1000000 := fun e he => by have := hm e he; unfold QM; omega
 have hln := Rec.len_add (b := i) (by omega) hmb (by omega)
 obtain ⟨p1, p2⟩ := LD.put hl (r := .add i m) (k := 2900) ⟨hi, hmb, by omega⟩ (by omega) (by omega) hg2
 unfold QP
 rw [if_pos h1, h2, h3]
 obtain ⟨q1, q2, q3, q4, q5, q6, q7⟩ := p2
 exact ⟨rfl, rfl, q1, q2, q3, q4, q5, Nat.le_trans q6 (by omega), q7⟩
theorem QbT {n k : Nat} {x : ND} {D : DK} (hk : k ≤ 90) (hl : LD n x.g D) (hx : NIn k x) {t v : Int} (ht : x.g.term ≤ t ∧ t ≤ 2305843009213693952 + (k + 1)) (hv : -1 ≤ v ∧ v < 9) :
  Hs (n + 3000) (QP (x, D) (x.g.setTermD D t v)) { x with g := { x.g with term := t, vote := v } } := by
 have hgd : x.g.down = false := hl.2.2.2.2.1
 obtain ⟨h1, h2, h3⟩ := QmS hgd hl.h ht.1 hv.1
 have hterm := hx.term
 have hg2 := (hx.set (t := t) (vt := v) (by omega) hv).g (by omega)
 have hln := Rec.len_term (t := t) (v := v) (by unfold QM; omega) (by omega)
 obtain ⟨p1, p2⟩ := LD.put hl (r := .term t v) (k := 2900) ⟨by unfold QM; omega, hv.1, by omega⟩ (by omega) (by omega) hg2
 unfold QP
 rw [if_pos h1, h2, h3]
 obtain ⟨q1, q2, q3, q4, q5, q6, q7⟩ := p2
 exact ⟨rfl, rfl, q1, q2, q3, q4, q5, Nat.le_trans q6 (by omega), q7⟩
theorem Hs.bind {n m : Nat} {r : Bool × NS} {y z : ND} {f : NS → Bool × NS} (h : Hs n r y) (hf : ∀ D, LD n y.g D → Hs m (f (y, D)) z) : Hs m (QU r f) z := by
 obtain ⟨h1, h2, h3⟩ := h
 unfold QU
 rw [if_pos h1, show r.2 = (y, r.2.2) from by rw [← h2]]
 exact hf _ h3
def ND.entryP (x : ND) (cmd : Bs) : ND := (ND.count { x with g := x.g.play (.add x.g.last [(x.g.term, cmd)]) }).feedAll
def ND.winP (x : ND) : ND := x.wins.entryP []
def ND.standP (x : ND) : ND := if x.n = 1 then (ND.stands { x with g := { x.g with term := x.g.term + 1, vote := x.id } }).winP else (ND.stands { x with g := { x.g with term := x.g.term + 1, vote := x.id } }).askAll
def ND.tickP (x : ND) : ND :=
 if x.role = 2 then if x.patience + 1 ≥ 3 then ND.feedAll { x with patience := 0 } else { x with patience := x.patience + 1 }
 else if x.patience + 1 ≥ Zi x.id x.g.term then ND.standP { x with patience := x.patience + 1 } else { x with patience := x.patience + 1 }
def ND.askedP (x : ND) (m : Msg) : ND := if x.grants m = true then ND.send { x with g := { x.g with term := x.g.term, vote := m.frm }, patience := 0 } (ND.voteMsg m true) else x.send (ND.voteMsg m false)
def ND.votedP (x : ND) (m : Msg) : ND :=
 if ¬ x.role = 1 ∨ ¬ m.term = x.g.term ∨ m.ok = false then x
 else if 2 * ((QW x.votes m.frm).length : Int) > x.n then ND.winP { x with votes := QW x.votes m.frm } else { x with votes := QW x.votes m.frm }
def ND.restP (x : ND) (m : Msg) (c : Int × List Ent) : ND := match ND.fits x.g c.2 (c.1 + 1) with
 | none => (x.commits m (c.1 + c.2.length)).answer m true (c.1 + c.2.length)
 | some (i, l) => if i ≤ x.commit then x else (ND.commits { x with g := x.g.play (.add (i - 1) l) } m (c.1 + c.2.length)).answer m true (c.1 + c.2.length)
def ND.addP (x : ND) (m : Msg) : ND :=
 if m.index < x.g.base ∧ (m.es.length : Int) < x.g.base - m.index then x.answer m true x.g.base
 else if ¬ m.index < x.g.base ∧ ¬ x.g.termAt m.index = some m.logTerm then x.answer m false (min x.g.last (max m.index 1 - 1))
 else x.restP m (x.cutM m)
def ND.snapP (x : ND) (m : Msg) : ND := if m.index > x.commit then ND.answer { x with g := x.g.inst m.index m.logTerm m.state, commit := m.index } m true m.index else x.answer m true x.commit
def ND.fedP (x : ND) (m : Msg) : ND := if m.term < x.g.term then x.answer m false 0 else if x.role = 2 then x else if m.kind = 2 then (x.follows m).addP m else (x.follows m).snapP m
def ND.heardP (x : ND) (m : Msg) : ND := (Yb (x, DK.new) m).2.1
def ND.kindP (x : ND) (m : Msg) : ND := if m.kind = 0 then x.askedP m else if m.kind = 1 then x.votedP m else if m.kind = 2 ∨ m.kind = 4 then x.fedP m else if m.kind = 3 then x.heardP m else x
def ND.receiveP (x : ND) (m : Msg) : ND :=
 if ¬ m.to = x.id ∨ m.frm = x.id ∨ m.frm < 0 ∨ m.frm ≥ x.n then x
 else if m.term > x.g.term then (ND.newTerm { x with g := { x.g with term := m.term, vote := -1 } }).kindP m else x.kindP m
theorem Hs.ret {n m : Nat} {y : ND} {D : DK} {g : LG} (h : LD n g D) (hg : y.g = g) (hm : n ≤ m) : Hs m (true, (y, D)) y := ⟨rfl, rfl, by rw [hg]; exact LD.mono2 h hm⟩
theorem Zy (x : ND) : x.feedAll.g = x.g := by rw [Xo]; rfl
theorem Qar (x : ND) : x.askAll.g = x.g := by unfold ND.askAll; rw [qv]; rfl
theorem ZI (x : ND) : x.count.g = x.g := (YO x).2.1
theorem QgQ {n k : Nat} {x : ND} {D : DK} {cmd : Bs} (hk : k ≤ 90) (hl : LD n x.g D) (hx : NIn k x) (hc : cmd.length ≤ 100) : Hs (n + 3000) (QQ (x, D) cmd) (x.entryP cmd) := by
 have ht := hx.term
 have hle : x.g.last = x.g.base + x.g.all.length := rfl
 exact Hs.bind (Qe5 (i := x.g.last) (m := [(x.g.term, cmd)]) hk hl hx ⟨by omega, Int.le_refl _⟩ (fun e he => by simp at he; subst he; exact ⟨⟨by omega, by omega⟩, hc⟩) (by simp)) (fun D' h => Hs.ret h (by rw [Zy, ZI]) (Nat.le_refl _))
theorem QkN {n k : Nat} {x : ND} {D : DK} (hk : k ≤ 90) (hl : LD n x.g D) (hx : NIn k x) : Hs (n + 3000) (Zs (x, D)) x.winP :=
 QgQ (x := x.wins) hk hl (NIn.wins (by omega) hx) (by simp)
theorem Qlo {n k : Nat} {x : ND} {D : DK} (hk : k ≤ 80) (hl : LD n x.g D) (hx : NIn k x) : Hs (n + 6000) (Yh (x, D)) x.standP := by
 have ht := hx.term
 have hid := hx.idn
 refine Hs.bind (QbT (by omega) hl hx (t := x.g.term + 1) (v := x.id) (by omega) (by omega)) (fun D' h => ?_)
 have h1 := (hx.set (t := x.g.term + 1) (vt := x.id) (by omega) (by omega)).stands
 unfold ND.standP
 dsimp only
 by_cases hn : x.n = 1
 ·rw [if_pos hn, if_pos hn]
  exact QkN (k := k + 1) (by omega) h h1
 ·rw [if_neg hn, if_neg hn]
  exact Hs.ret h (Qar _) (by omega)
theorem QmJ {n k : Nat} {x : ND} {D : DK} (hk : k ≤ 70) (hl : LD n x.g D) (hx : NIn k x) : Hs (n + 6000) (tickN (x, D)) x.tickP := by
 have hp := hx.patience
 unfold tickN ND.tickP
 dsimp only
 by_cases h1 : x.role = 2
 ·rw [if_pos h1, if_pos h1]
  by_cases h2 : x.patience + 1 ≥ 3
  ·rw [if_pos h2, if_pos h2]; exact Hs.ret hl (Zy _) (by omega)
  ·rw [if_neg h2, if_neg h2]; exact Hs.ret hl rfl (by omega)
 ·rw [if_neg h1, if_neg h1]
  by_cases h2 : x.patience + 1 ≥ Zi x.id x.g.term
  ·rw [if_pos h2, if_pos h2]
   exact Qlo (k := k + 1) (x := { x with patience := x.patience + 1 }) (by omega) hl ((hx.le (show k ≤ k + 1 by omega)).pat (by omega))
  ·rw [if_neg h2, if_neg h2]; exact Hs.ret hl rfl (by omega)
theorem Qmw {n k : Nat} {x : ND} {D : DK} {m : Msg} (hk : k ≤ 70) (hl : LD n x.g D) (hx : NIn k x) (hm : MIn k x.n m) : Hs (n + 3000) (Zd (x, D) m) (x.askedP m) := by
 have hf := hm.frm
 have hid := hx.idn
 have ht := hx.term
 unfold Zd ND.askedP
 dsimp only
 by_cases h1 : x.grants m = true
 ·rw [if_pos h1, if_pos h1]
  exact Hs.bind (QbT (by omega) hl hx (t := x.g.term) (v := m.frm) (by omega) (by omega)) (fun D' h => Hs.ret h rfl (Nat.le_refl _))
 ·rw [if_neg h1, if_neg h1]; exact Hs.ret hl rfl (by omega)
theorem Qlc {n k : Nat} {x : ND} {D : DK} {m : Msg} (hk : k ≤ 70) (hl : LD n x.g D) (hx : NIn k x) (hm : MIn k x.n m) : Hs (n + 3000) (Yg (x, D) m) (x.votedP m) := by
 unfold Yg ND.votedP
 dsimp only
 by_cases h1 : ¬ x.role = 1 ∨ ¬ m.term = x.g.term ∨ m.ok = false
 ·rw [if_pos h1, if_pos h1]; exact Hs.ret hl rfl (by omega)
 ·rw [if_neg h1, if_neg h1]
  by_cases h2 : 2 * ((QW x.votes m.frm).length : Int) > x.n
  ·rw [if_pos h2, if_pos h2]
   exact QkN (k := k) (x := { x with votes := QW x.votes m.frm }) (by omega) hl (hx.vote1 hm.frm)
  ·rw [if_neg h2, if_neg h2]; exact Hs.ret hl rfl (by omega)
theorem jG {g : LG} : ∀ {l : List Ent} {i j : Int} {l2 : List Ent}, ND.fits g l i = some (j, l2) → i ≤ j ∧ (∃ c : Nat, l2 = l.drop c ∧ j = i + c) ∧ (j = i ∨ (∃ e, g.at (j - 1) = some e))
 | [], i, j, l2, h => by cases h
 | e :: l, i, j, l2, h => by
  by_cases h1 : (g.at i).map (·.1) = some e.1
  ·rw [qM h1] at h
   obtain ⟨a, ⟨c, hc1, hc2⟩, d⟩ := jG h
   refine ⟨by omega, ⟨c + 1, by simpa using hc1, by omega⟩, .inr ?_⟩
   rcases d with d | d
   ·subst d
    cases h2 : g.at i with
    | none => rw [h2] at h1; cases h1
    | some e2 => exact ⟨e2, by rw [show i + 1 - 1 = i by omega]; exact h2⟩
   ·exact d
  ·rw [qS h1] at h
   cases h
   exact ⟨Int.le_refl _, ⟨0, by simp, by omega⟩, .inl rfl⟩
theorem zn {g : LG} {i : Int} {e : Ent} (h : g.at i = some e) : g.base < i ∧ i ≤ g.last := by
 unfold LG.at at h
 split at h
 ·assumption
 ·cases h
theorem ZS {g : LG} {i t : Int} (h : g.termAt i = some t) : g.base ≤ i ∧ i ≤ g.last := by
 unfold LG.termAt at h
 split at h
 ·rename_i h1; unfold LG.last; omega
 ·cases h2 : g.at i with
  | none => rw [h2] at h; cases h
  | some e => have := zn h2; omega
theorem Qm1 {n k : Nat} {x : ND} {D : DK} {m : Msg} (hk : k ≤ 70) (hl : LD n x.g D) (hx : NIn k x) (hm : MIn k x.n m) (hc : x.g.base ≤ (x.cutM m).1 ∧ (x.cutM m).1 ≤ x.g.last) : Hs (n + 3000) (yE x D m (x.cutM m)) (x.restP m (x.cutM m)) := by
 obtain ⟨hb1, hb2, hb3⟩ := Qfz hx hm
 unfold yE ND.restP
 cases hfi : ND.fits x.g (x.cutM m).2 ((x.cutM m).1 + 1) with
 | none => exact Hs.ret hl rfl (by omega)
 | some p =>
  obtain ⟨i, l⟩ := p
  obtain ⟨a1, ⟨c, hc1, hc2⟩, a3⟩ := jG hfi
  dsimp only
  by_cases h1 : i ≤ x.commit
  ·rw [if_pos h1, if_pos h1]; exact Hs.ret hl rfl (by omega)
  ·rw [if_neg h1, if_neg h1]
   have hi : x.g.base ≤ i - 1 ∧ i - 1 ≤ x.g.last := by
    rcases a3 with a3 | ⟨e, a3⟩
    ·omega
    ·have := zn a3; omega
   exact Hs.bind (Qe5 (i := i - 1) (m := l) (by omega) hl hx hi (fun e he => hb3 e (by rw [hc1] at he; exact List.mem_of_mem_drop he)) (by rw [hc1]; simp; omega)) (fun D' h => Hs.ret h rfl (Nat.le_refl _))
theorem Qn6 {n k : Nat} {x : ND} {D : DK} {m : Msg} (hk : k ≤ 70) (hl : LD n x.g D) (hx : NIn k x) (hm : MIn k x.n m) : Hs (n + 3000) (Zr (x, D) m) (x.addP m) := by
 unfold ND.addP
 by_cases h1 : m.index < x.g.base ∧ (m.es.length : Int) < x.g.base - m.index
 ·unfold Zr
  rw [if_pos h1, if_pos h1]; exact Hs.ret hl rfl (by omega)
 ·by_cases h2 : ¬ m.index < x.g.base ∧ ¬ x.g.termAt m.index = some m.logTerm
  ·unfold Zr
   rw [if_neg h1, if_neg h1, if_pos h2, if_pos h2]; exact Hs.ret hl rfl (by omega)
  ·rw [Qbp h1 h2, if_neg h1, if_neg h2]
   refine Qm1 hk hl hx hm ?_
   unfold ND.cutM
   by_cases h3 : m.index < x.g.base
   ·rw [if_pos h3]; unfold LG.last; dsimp only; omega
   ·rw [if_neg h3]
    have h4 : x.g.termAt m.index = some m.logTerm := by
     by_cases h4 : x.g.termAt m.index = some m.logTerm
     ·exact h4
     ·exact absurd ⟨h3, h4⟩ h2
    exact ZS h4
theorem LD.swap {n : Nat} {g to : LG} {D : DK} (h : LD n g D) (ht : to.ok) (hd : to.down = false) (hw : (wr (Rec.all to).nd).length ≤ 16777216) (hn : 17000000 ≤ n) : LD n to (D.swap (Rec.all to).bytes).2 := by
 obtain ⟨h1, h2, h3, h4, h5, h6, rs, h7, h8⟩ := h
 have e : D.swap (Rec.all to).bytes = (0, { D with b := (Rec.all to).bytes, sure := (Rec.all to).bytes.length }) := by
  unfold DK.swap; rw [QaD ⟨h1, h2⟩]; rfl
 rw [e]
 have hp : LG.new.play (.all to) = to := by
  show { to with down := false } = to
  cases to; simp at hd; subst hd; rfl
 refine ⟨h1, h2, rfl, h4, hd, ?_, [Rec.all to], by simp [QZ], .cons LG.new_ok ht hw ?_⟩
 ·show (Rec.all to).bytes.length ≤ n
  unfold Rec.bytes; rw [List.length_append, Yy]; omega
 ·rw [hp]; exact .nil _ ht
theorem Qai {k : Nat} {x : ND} (hk : k ≤ 90) (hx : NIn k x) : (wr (Rec.all x.g).nd).length ≤ 16777216 := by
 have h1 := Rec.len_all (hx.g (by omega))
 have h2 := jJ (fun e he => (hx.all e he).2)
 have h3 := hx.alln
 have h4 := hx.state
 omega
theorem QmR {n k : Nat} {x : ND} {D : DK} {m : Msg} (hn : 17000000 ≤ n) (hk : k ≤ 70) (hl : LD n x.g D) (hx : NIn k x) (hm : MIn k x.n m) (hb : x.g.base ≤ x.commit) : Hs (n + 3000) (yC (x, D) m) (x.snapP m) := by
 unfold yC ND.snapP
 dsimp only
 by_cases h1 : m.index > x.commit
 ·rw [if_pos h1, if_pos h1]
  have hgd : x.g.down = false := hl.2.2.2.2.1
  obtain ⟨a1, a2, to, a3, a4⟩ := Ql1 hgd hl.h (i := m.index) (t := m.logTerm) (s := m.state) (by omega)
  have hy := hx.inst hm.index hm.logTerm hm.state
  have hto : to.ok := by rw [a4]; exact hy.g (by omega)
  have htd : to.down = false := by rw [a4]; unfold LG.inst; split <;> exact hgd
  have hL := LD.swap hl hto htd (by rw [a4]; exact Qai (x := { x with g := x.g.inst m.index m.logTerm m.state }) (by omega) hy) hn
  refine Hs.bind (y := { x with g := x.g.inst m.index m.logTerm m.state }) (n := n) ?_ (fun D' h => Hs.ret h rfl (by omega))
  unfold QP
  rw [if_pos a1, a2, a3]
  exact ⟨rfl, rfl, by rw [← a4]; exact hL⟩
 ·rw [if_neg h1, if_neg h1]; exact Hs.ret hl rfl (by omega)
theorem QnX {n k : Nat} {x : ND} {D : DK} {m : Msg} (hn : 17000000 ≤ n) (hk : k ≤ 70) (hl : LD n x.g D) (hx : NIn k x) (hm : MIn k x.n m) (hb : x.g.base ≤ x.commit) : Hs (n + 3000) (YP (x, D) m) (x.fedP m) := by
 unfold YP ND.fedP
 dsimp only
 by_cases h1 : m.term < x.g.term
 ·rw [if_pos h1, if_pos h1]; exact Hs.ret hl rfl (by omega)
 ·rw [if_neg h1, if_neg h1]
  by_cases h2 : x.role = 2
  ·rw [if_pos h2, if_pos h2]; exact Hs.ret hl rfl (by omega)
  ·rw [if_neg h2, if_neg h2]
   by_cases h3 : m.kind = 2
   ·rw [if_pos h3, if_pos h3]; exact Qn6 (x := x.follows m) hk hl (hx.follows m) hm
   ·rw [if_neg h3, if_neg h3]; exact QmR (x := x.follows m) hn hk hl (hx.follows m) hm hb
theorem Ql3 {n : Nat} {x : ND} {D : DK} {m : Msg} (hl : LD n x.g D) : Hs n (Yb (x, D) m) (x.heardP m) := by
 unfold ND.heardP Yb
 dsimp only
 by_cases h1 : ¬ x.role = 2 ∨ ¬ m.term = x.g.term
 ·rw [if_pos h1, if_pos h1]; exact ⟨rfl, rfl, hl⟩
 ·rw [if_neg h1, if_neg h1]
  by_cases h2 : m.ok = false
  ·rw [if_pos h2, if_pos h2]; exact ⟨rfl, rfl, hl⟩
  ·rw [if_neg h2, if_neg h2]
   split
   ·exact ⟨rfl, rfl, by show LD n (ND.count _).g _; rw [ZI]; exact hl⟩
   ·exact ⟨rfl, rfl, by show LD n (ND.count _).g _; rw [ZI]; exact hl⟩
theorem Qi2 {n k : Nat} {x : ND} {D : DK} {m : Msg} (hn : 17000000 ≤ n) (hk : k ≤ 70) (hl : LD n x.g D) (hx : NIn k x) (hm : MIn k x.n m) (hb : x.g.base ≤ x.commit) : Hs (n + 3000) (Yc (x, D) m) (x.kindP m) := by
 unfold Yc ND.kindP
 by_cases h0 : m.kind = 0
 ·rw [if_pos h0, if_pos h0]; exact Qmw hk hl hx hm
 ·rw [if_neg h0, if_neg h0]
  by_cases h1 : m.kind = 1
  ·rw [if_pos h1, if_pos h1]; exact Qlc hk hl hx hm
  ·rw [if_neg h1, if_neg h1]
   by_cases h2 : m.kind = 2 ∨ m.kind = 4
   ·rw [if_pos h2, if_pos h2]; exact QnX hn hk hl hx hm hb
   ·rw [if_neg h2, if_neg h2]
    by_cases h3 : m.kind = 3
    ·rw [if_pos h3, if_pos h3]
     obtain ⟨a, b, c⟩ := Ql3 (m := m) hl
     exact ⟨a, b, LD.mono2 c (by omega)⟩
    ·rw [if_neg h3, if_neg h3]; exact Hs.ret hl rfl (by omega)
theorem QiF {n k : Nat} {x : ND} {D : DK} {m : Msg} (hn : 17000000 ≤ n) (hk : k ≤ 60) (hl : LD n x.g D) (hx : NIn k x) (hm : MIm k m) (hb : x.g.base ≤ x.commit) : Hs (n + 6000) (Xk (x, D) m) (x.receiveP m) := by
 unfold Xk ND.receiveP
 dsimp only
 have hmt := hm.term
 by_cases h1 : ¬ m.to = x.id ∨ m.frm = x.id ∨ m.frm < 0 ∨ m.frm ≥ x.n
 ·rw [if_pos h1, if_pos h1]; exact Hs.ret hl rfl (by omega)
 ·rw [if_neg h1, if_neg h1]
  have hf : 0 ≤ m.frm ∧ m.frm < x.n := by omega
  by_cases h2 : m.term > x.g.term
  ·rw [if_pos h2, if_pos h2]
   refine Hs.bind (QbT (by omega) hl hx (t := m.term) (v := -1) (by omega) (by omega)) (fun D' h => ?_)
   exact Qi2 (k := k + 1) (n := n + 3000) (x := ND.newTerm { x with g := { x.g with term := m.term, vote := -1 } }) (by omega) (by omega) h ((hx.set (t := m.term) (vt := -1) (by omega) (by omega)).newTerm) (hm.to hf (by omega)) hb
  ·rw [if_neg h2, if_neg h2]
   obtain ⟨a, b, c⟩ := Qi2 (m := m) hn (by omega) hl hx (hm.to hf (Nat.le_refl _)) hb
   exact ⟨a, b, LD.mono2 c (by omega)⟩
structure LIn (T I : Int) (A : Nat) (x : ND) : Prop where
 idn : x.id < x.n ∧ x.n ≤ 9
 down : x.down = false
 term : 0 ≤ x.g.term ∧ x.g.term ≤ T
 vote : -1 ≤ x.g.vote ∧ x.g.vote < 9
 base : 0 ≤ x.g.base
 baseT : 0 ≤ x.g.baseT ∧ x.g.baseT ≤ T
 last : x.g.last ≤ I
 state : x.g.state.length ≤ 1000000
 alln : x.g.all.length ≤ A
 all : ∀ e ∈ x.g.all, (0 ≤ e.1 ∧ e.1 ≤ T) ∧ e.2.length ≤ 100
 commit : x.g.base ≤ x.commit ∧ x.commit ≤ x.g.last
 patience : 0 ≤ x.patience ∧ x.patience ≤ 30
 peers : x.role = 2 → x.peers.length = x.n
 peer : ∀ p ∈ x.peers, (1 ≤ p.1 ∧ p.1 ≤ I + 1) ∧ (0 ≤ p.2 ∧ p.2 ≤ I)
 pl : x.role = 2 → ∀ p ∈ x.peers, p.2 ≤ x.g.last
 votes : x.votes.Nodup ∧ ∀ i ∈ x.votes, 0 ≤ i ∧ i < (x.n : Int)
theorem LIn.mono {T T' I I' : Int} {A A' : Nat} {x : ND} (h : LIn T I A x) (hT : T ≤ T') (hI : I ≤ I') (hA : A ≤ A') : LIn T' I' A' x :=
 ⟨h.idn, h.down, ⟨h.term.1, Int.le_trans h.term.2 hT⟩, h.vote, h.base, ⟨h.baseT.1, Int.le_trans h.baseT.2 hT⟩, Int.le_trans h.last hI, h.state, Nat.le_trans h.alln hA, fun e he => ⟨⟨(h.all e he).1.1, Int.le_trans (h.all e he).1.2 hT⟩, (h.all e he).2⟩, h.commit, h.patience, h.peers, fun p hp => ⟨⟨(h.peer p hp).1.1, by have := (h.peer p hp).1.2; omega⟩, ⟨(h.peer p hp).2.1, Int.le_trans (h.peer p hp).2.2 hI⟩⟩, h.pl, h.votes⟩
theorem LIn.nin {T I : Int} {A : Nat} {x : ND} (h : LIn T I A x) (k : Nat) (hT : T ≤ 2305843009213693952) (hI : I ≤ 100000000000000) (hA : A ≤ 80000) (ho : x.out.length ≤ 20 * k) : NIn k x :=
 ⟨h.idn, ⟨h.term.1, by have := h.term.2; omega⟩, h.vote, ⟨h.base, by have := h.last; have := h.commit; omega⟩, ⟨h.baseT.1, by have := h.baseT.2; omega⟩, h.state, by have := h.alln; omega, fun e he => ⟨⟨(h.all e he).1.1, by have := (h.all e he).1.2; omega⟩, (h.all e he).2⟩, by have := h.base; have := h.last; have := h.commit; omega, by have := h.patience; omega, h.peers, fun p hp => by have := h.peer p hp; omega, h.votes, ho⟩
structure TR (x y : ND) : Prop where
 id : y.id = x.id
 n : y.n = x.n
 com : x.commit ≤ y.commit
 base : x.g.base ≤ y.g.base
 at_ : ∀ i, y.g.base < i → i ≤ x.commit → y.g.at i = x.g.at i
 vr : x.g.term < y.g.term ∨ (x.g.term = y.g.term ∧ (x.g.vote = -1 ∨ x.g.vote = y.g.vote))
theorem TR.same {x y : ND} (hg : y.g = x.g) (h1 : y.id = x.id) (h2 : y.n = x.n) (h3 : x.commit ≤ y.commit) : TR x y :=
 ⟨h1, h2, h3, by rw [hg]; exact Int.le_refl _, fun i _ _ => by rw [hg], .inr ⟨by rw [hg], .inr (by rw [hg])⟩⟩
theorem TR.rfl {x : ND} : TR x x := TR.same (Eq.refl _) (Eq.refl _) (Eq.refl _) (Int.le_refl _)
theorem TR.trans {x y z : ND} (h : TR x y) (k : TR y z) : TR x z :=
 ⟨k.id.trans h.id, k.n.trans h.n, Int.le_trans h.com k.com, Int.le_trans h.base k.base, fun i hi hc => by
  have h1 := k.base
  have h2 := h.com
  rw [k.at_ i hi (by omega), h.at_ i (by omega) hc], by
  have h1 := h.vr
  have h2 := k.vr
  omega⟩
structure LT (T I : Int) (A : Nat) (x y : ND) : Prop where
 inn : LIn T I A y
 tr : TR x y
theorem LT.rfl {T I : Int} {A : Nat} {x : ND} (h : LIn T I A x) : LT T I A x x := ⟨h, TR.rfl⟩
theorem LT.trans {T I T' I' : Int} {A A' : Nat} {x y z : ND} (h : LT T I A x y) (k : LT T' I' A' y z) : LT T' I' A' x z := ⟨k.inn, h.tr.trans k.tr⟩
theorem LT.mono {T T' I I' : Int} {A A' : Nat} {x y : ND} (h : LT T I A x y) (hT : T ≤ T') (hI : I ≤ I') (hA : A ≤ A') : LT T' I' A' x y := ⟨h.inn.mono hT hI hA, h.tr⟩
theorem LIn.sends {T I : Int} {A : Nat} {x : ND} (h : LIn T I A x) (l : List Msg) : LIn T I A { x with out := l } :=
 ⟨h.idn, h.down, h.term, h.vote, h.base, h.baseT, h.last, h.state, h.alln, h.all, h.commit, h.patience, h.peers, h.peer, h.pl, h.votes⟩
theorem LT.sent {T I : Int} {A : Nat} {x y : ND} (h : LT T I A x y) (l : List Msg) : LT T I A x { y with out := l } :=
 ⟨h.inn.sends l, h.tr.trans (TR.same (Eq.refl _) (Eq.refl _) (Eq.refl _) (Int.le_refl _))⟩
theorem yK {g : LG} {i : Int} {m : List Ent} (hi : g.base ≤ i ∧ i ≤ g.last) : (g.play (.add i m)).last = i + m.length := by
 unfold LG.play LG.last at *
 simp; omega
theorem QcO {g : LG} {i : Int} (h : g.base < i ∧ i ≤ g.last) : g.at i = g.all[(i - g.base - 1).toNat]? := by unfold LG.at; rw [if_pos h]
theorem jM {g : LG} {i : Int} (h : ¬ (g.base < i ∧ i ≤ g.last)) : g.at i = none := by unfold LG.at; rw [if_neg h]
theorem QlF {g : LG} {i j : Int} {m : List Ent} (hi : g.base ≤ i ∧ i ≤ g.last) (hj : j ≤ i) : (g.play (.add i m)).at j = g.at j := by
 have h1 := yK (m := m) hi
 have hb : (g.play (.add i m)).base = g.base := rfl
 by_cases h2 : g.base < j
 ·rw [QcO (g := g) (by omega), QcO (by omega), hb]
  show (g.all.take (i - g.base).toNat ++ m)[_]? = _
  unfold LG.last at hi
  rw [List.getElem?_append_left (by simp; omega), List.getElem?_take_of_lt (by omega)]
 ·rw [jM (g := g) (by omega), jM (by omega)]
theorem LIn.add {T I : Int} {A : Nat} {x : ND} (h : LIn T I A x) {i : Int} {m : List Ent} (hi : x.commit ≤ i ∧ i ≤ x.g.last) (hr : x.role = 2 → i = x.g.last) (hm : ∀ e ∈ m, (0 ≤ e.1 ∧ e.1 ≤ T) ∧ e.2.length ≤ 100) : LT T (I + m.length) (A + m.length) x { x with g := x.g.play (.add i m) } := by
 have hc := h.commit
 have hI := h.last
 have hA := h.alln
 have hl := yK (g := x.g) (i := i) (m := m) (by omega)
 refine ⟨⟨h.idn, h.down, h.term, h.vote, h.base, h.baseT, by show (x.g.play (.add i m)).last ≤ _; rw [hl]; omega, h.state, ?_, ?_, ⟨hc.1, by show _ ≤ (x.g.play (.add i m)).last; rw [hl]; show x.commit ≤ _; omega⟩, h.patience, h.peers, fun p hp => by have := h.peer p hp; omega, fun hr2 p hp => ?_, h.votes⟩, ?_⟩
 ·show (x.g.all.take _ ++ m).length ≤ _
  simp; omega
 ·intro e he
  rcases List.mem_append.1 (show e ∈ x.g.all.take _ ++ m from he) with he | he
  ·exact h.all e (List.mem_of_mem_take he)
  ·exact hm e he
 ·show _ ≤ (x.g.play (.add i m)).last
  have h1 := h.pl hr2 p hp
  have h2 := hr hr2
  rw [hl]; omega
 ·exact ⟨Eq.refl _, Eq.refl _, Int.le_refl _, Int.le_refl _, fun j _ hj => QlF (by omega) (by omega), .inr ⟨Eq.refl _, .inr (Eq.refl _)⟩⟩
theorem LIn.set {T I : Int} {A : Nat} {x : ND} (h : LIn T I A x) {t v : Int} (ht : 0 ≤ t ∧ t ≤ T) (hv : -1 ≤ v ∧ v < 9) (hvr : x.g.term < t ∨ (x.g.term = t ∧ (x.g.vote = -1 ∨ x.g.vote = v))) : LT T I A x { x with g := { x.g with term := t, vote := v } } :=
 ⟨⟨h.idn, h.down, ht, hv, h.base, h.baseT, h.last, h.state, h.alln, h.all, h.commit, h.patience, h.peers, h.peer, h.pl, h.votes⟩, ⟨Eq.refl _, Eq.refl _, Int.le_refl _, Int.le_refl _, fun _ _ _ => Eq.refl _, hvr⟩⟩
theorem Qe7 {x : ND} (hid : x.id < x.n) (h : ∀ p ∈ x.peers, p.2 ≤ x.g.last) (h0 : 0 ≤ x.g.last) : x.mid ≤ x.g.last := by
 have hm := QgA hid
 unfold ND.reach at hm
 rcases List.mem_cons.1 hm with hm | hm
 ·omega
 ·obtain ⟨i, _, hi⟩ := List.mem_map.1 hm
  rw [← hi]
  unfold ND.mat
  by_cases h1 : i < x.peers.length
  ·exact h _ (by rw [List.getD_eq_getElem?_getD, List.getElem?_eq_getElem h1]; simp)
  ·rw [List.getD_eq_getElem?_getD, List.getElem?_eq_none (by omega)]; exact h0
theorem LIn.count {T I : Int} {A : Nat} {x : ND} (h : LIn T I A x) (hr : x.role = 2) : LT T I A x x.count := by
 have h0 := h.base
 have hc := h.commit
 have hm := Qe7 h.idn.1 (h.pl hr) (by omega)
 unfold ND.count
 split
 ·rename_i h1
  exact ⟨⟨h.idn, h.down, h.term, h.vote, h.base, h.baseT, h.last, h.state, h.alln, h.all, ⟨by show x.g.base ≤ x.mid; omega, hm⟩, h.patience, h.peers, h.peer, h.pl, h.votes⟩, TR.same (Eq.refl _) (Eq.refl _) (Eq.refl _) (by show x.commit ≤ x.mid; omega)⟩
 ·exact LT.rfl h
theorem LIn.entryP {T I : Int} {A : Nat} {x : ND} {cmd : Bs} (h : LIn T I A x) (hr : x.role = 2) (hc : cmd.length ≤ 100) : LT T (I + 1) (A + 1) x (x.entryP cmd) := by
 have h1 := h.add (i := x.g.last) (m := [(x.g.term, cmd)]) ⟨h.commit.2, Int.le_refl _⟩ (fun _ => Eq.refl _) (fun e he => by simp at he; subst he; exact ⟨h.term, hc⟩)
 have h2 := h1.trans (LIn.count h1.inn hr)
 unfold ND.entryP
 rw [Xo]
 exact h2.sent _
theorem LIn.wins {T I : Int} {A : Nat} {x : ND} (h : LIn T I A x) : LIn T I A x.wins := by
 have h0 := h.base
 have hc := h.commit
 have hl := h.last
 refine ⟨h.idn, h.down, h.term, h.vote, h.base, h.baseT, h.last, h.state, h.alln, h.all, h.commit, ⟨by show (0 : Int) ≤ 0; omega, by show (0 : Int) ≤ 30; omega⟩, fun _ => by simp [ND.wins], ?_, ?_, h.votes⟩
 ·intro p hp
  obtain ⟨_, rfl⟩ := List.mem_replicate.1 (show p ∈ List.replicate x.n (x.g.last + 1, 0) from hp)
  dsimp only; omega
 ·intro _ p hp
  obtain ⟨_, rfl⟩ := List.mem_replicate.1 (show p ∈ List.replicate x.n (x.g.last + 1, 0) from hp)
  show 0 ≤ x.g.last; omega
theorem LIn.winP {T I : Int} {A : Nat} {x : ND} (h : LIn T I A x) : LT T (I + 1) (A + 1) x x.winP := by
 have h1 := LIn.entryP (cmd := []) h.wins (Eq.refl _) (by simp)
 exact ⟨h1.inn, TR.trans (TR.same (y := x.wins) (Eq.refl _) (Eq.refl _) (Eq.refl _) (Int.le_refl _)) h1.tr⟩
theorem LIn.stands {T I : Int} {A : Nat} {x : ND} (h : LIn T I A x) : LIn T I A x.stands := by
 have hid := h.idn
 refine ⟨h.idn, h.down, h.term, h.vote, h.base, h.baseT, h.last, h.state, h.alln, h.all, h.commit, ⟨by show (0 : Int) ≤ 0; omega, by show (0 : Int) ≤ 30; omega⟩, fun hr => absurd (show (1 : Int) = 2 from hr) (by decide), h.peer, fun hr => absurd (show (1 : Int) = 2 from hr) (by decide), by simp [ND.stands], fun i hi => ?_⟩
 have : i = (x.id : Int) := by simpa [ND.stands] using hi
 show 0 ≤ i ∧ i < (x.n : Int)
 omega
theorem LIn.standP {T I : Int} {A : Nat} {x : ND} (h : LIn T I A x) : LT (T + 1) (I + 1) (A + 1) x x.standP := by
 have hid := h.idn
 have ht := h.term
 have h1 := (h.mono (show T ≤ T + 1 by omega) (Int.le_refl _) (Nat.le_refl _)).set (t := x.g.term + 1) (v := x.id) (by omega) (by omega) (.inl (by omega))
 have h2 := h1.inn.stands
 have h3 : TR x (ND.stands { x with g := { x.g with term := x.g.term + 1, vote := x.id } }) := h1.tr.trans (TR.same (Eq.refl _) (Eq.refl _) (Eq.refl _) (Int.le_refl _))
 unfold ND.standP
 by_cases hn : x.n = 1
 ·rw [if_pos hn]
  have h4 := LIn.winP h2
  exact ⟨h4.inn, h3.trans h4.tr⟩
 ·rw [if_neg hn]
  unfold ND.askAll
  rw [qv]
  exact LT.mono (LT.sent ⟨h2, h3⟩ _) (Int.le_refl _) (by omega) (by omega)
theorem LIn.pat {T I : Int} {A : Nat} {x : ND} (h : LIn T I A x) {p : Int} (hp : 0 ≤ p ∧ p ≤ 30) : LT T I A x { x with patience := p } :=
 ⟨⟨h.idn, h.down, h.term, h.vote, h.base, h.baseT, h.last, h.state, h.alln, h.all, h.commit, hp, h.peers, h.peer, h.pl, h.votes⟩, TR.same (Eq.refl _) (Eq.refl _) (Eq.refl _) (Int.le_refl _)⟩
theorem Qda (i : Nat) (t : Int) : 10 ≤ Zi i t ∧ Zi i t ≤ 20 := by
 unfold Zi; omega
theorem LIn.tickP {T I : Int} {A : Nat} {x : ND} (h : LIn T I A x) : LT (T + 1) (I + 1) (A + 1) x x.tickP := by
 have hp := h.patience
 have hlm := Qda x.id x.g.term
 unfold ND.tickP
 by_cases h1 : x.role = 2
 ·rw [if_pos h1]
  by_cases h2 : x.patience + 1 ≥ 3
  ·rw [if_pos h2, Xo]
   exact LT.mono ((h.pat (by omega)).sent _) (by omega) (by omega) (by omega)
  ·rw [if_neg h2]
   exact LT.mono (h.pat (by omega)) (by omega) (by omega) (by omega)
 ·rw [if_neg h1]
  by_cases h2 : x.patience + 1 ≥ Zi x.id x.g.term
  ·rw [if_pos h2]
   have h3 := h.pat (p := 0) (by omega)
   have h4 := LIn.standP h3.inn
   have e : ND.standP { x with patience := x.patience + 1 } = ND.standP { x with patience := 0 } := Eq.refl _
   rw [e]
   exact h3.trans h4
  ·rw [if_neg h2]
   exact LT.mono (h.pat (by omega)) (by omega) (by omega) (by omega)
structure MLn (T I : Int) (m : Msg) : Prop where
 term : 0 ≤ m.term ∧ m.term ≤ T
 index : 0 ≤ m.index ∧ m.index ≤ I
 logTerm : 0 ≤ m.logTerm ∧ m.logTerm ≤ T
 commit : 0 ≤ m.commit
 es : m.es.length ≤ 20 ∧ ∀ e ∈ m.es, (0 ≤ e.1 ∧ e.1 ≤ T) ∧ e.2.length ≤ 100
 state : m.state.length ≤ 1000000
theorem LIn.askedP {T I : Int} {A : Nat} {x : ND} {m : Msg} (h : LIn T I A x) (hm : 0 ≤ m.frm ∧ m.frm < x.n) : LT T I A x (x.askedP m) := by
 have hid := h.idn
 unfold ND.askedP
 by_cases h1 : x.grants m = true
 ·rw [if_pos h1]
  have h1' := h1
  unfold ND.grants at h1'
  simp only [Bool.and_eq_true, Bool.or_eq_true, decide_eq_true_eq] at h1'
  obtain ⟨⟨⟨_, _⟩, hv⟩, _⟩ := h1'
  have h2 := h.set (t := x.g.term) (v := m.frm) h.term (by omega) (.inr ⟨Eq.refl _, hv⟩)
  have h3 := h2.trans (h2.inn.pat (p := 0) (by omega))
  exact h3.sent _
 ·rw [if_neg h1]
  exact (LT.rfl h).sent _
theorem LIn.vote1 {T I : Int} {A : Nat} {x : ND} (h : LIn T I A x) {i : Int} (hi : 0 ≤ i ∧ i < (x.n : Int)) : LIn T I A { x with votes := QW x.votes i } :=
 ⟨h.idn, h.down, h.term, h.vote, h.base, h.baseT, h.last, h.state, h.alln, h.all, h.commit, h.patience, h.peers, h.peer, h.pl, Qdw h.votes.1 i, fun j hj => by rcases jU hj with hj | hj; exact h.votes.2 j hj; subst hj; exact hi⟩
theorem LIn.votedP {T I : Int} {A : Nat} {x : ND} {m : Msg} (h : LIn T I A x) (hm : 0 ≤ m.frm ∧ m.frm < x.n) : LT T (I + 1) (A + 1) x (x.votedP m) := by
 unfold ND.votedP
 have h1 : LT T I A x { x with votes := QW x.votes m.frm } := ⟨h.vote1 hm, TR.same (Eq.refl _) (Eq.refl _) (Eq.refl _) (Int.le_refl _)⟩
 split
 ·exact LT.mono (LT.rfl h) (by omega) (by omega) (by omega)
 ·split
  ·have h2 := LIn.winP h1.inn
   exact h1.trans h2
  ·exact LT.mono h1 (by omega) (by omega) (by omega)
theorem LIn.commits {T I : Int} {A : Nat} {x y : ND} (h : LT T I A x y) (m : Msg) {last : Int} (hl : last ≤ y.g.last) : LT T I A x (y.commits m last) := by
 have hc := h.inn.commit
 refine ⟨⟨h.inn.idn, h.inn.down, h.inn.term, h.inn.vote, h.inn.base, h.inn.baseT, h.inn.last, h.inn.state, h.inn.alln, h.inn.all, ⟨?_, ?_⟩, h.inn.patience, h.inn.peers, h.inn.peer, h.inn.pl, h.inn.votes⟩, h.tr.trans (TR.same (Eq.refl _) (Eq.refl _) (Eq.refl _) ?_)⟩
 ·show y.g.base ≤ max y.commit (min m.commit last); omega
 ·show max y.commit (min m.commit last) ≤ y.g.last; omega
 ·show y.commit ≤ max y.commit (min m.commit last); omega
theorem Qa3 {g : LG} : ∀ {l : List Ent} {i : Int}, ND.fits g l i = none → l = [] ∨ i + l.length - 1 ≤ g.last
 | [], _, _ => .inl (Eq.refl _)
 | e :: l, i, h => by
  by_cases h1 : (g.at i).map (·.1) = some e.1
  ·rw [qM h1] at h
   right
   cases h2 : g.at i with
   | none => rw [h2] at h1; cases h1
   | some e2 =>
    have h3 := zn h2
    rcases Qa3 h with h4 | h4
    ·subst h4; simp; omega
    ·simp; omega
  ·rw [qS h1] at h; cases h
theorem LIn.restP {T I : Int} {A : Nat} {x : ND} {m : Msg} (h : LIn T I A x) (hr : ¬ x.role = 2) (hm : MLn T I m) (hc : x.g.base ≤ (x.cutM m).1 ∧ (x.cutM m).1 ≤ x.g.last) : LT T (I + 20) (A + 20) x (x.restP m (x.cutM m)) := by
 have hb3 : (x.cutM m).2.length ≤ 20 ∧ ∀ e ∈ (x.cutM m).2, (0 ≤ e.1 ∧ e.1 ≤ T) ∧ e.2.length ≤ 100 := by
  have := hm.es
  unfold ND.cutM
  split
  ·exact ⟨by simp; omega, fun e he => this.2 e (List.mem_of_mem_drop he)⟩
  ·exact this
 unfold ND.restP
 cases hfi : ND.fits x.g (x.cutM m).2 ((x.cutM m).1 + 1) with
 | none =>
  have hl : (x.cutM m).1 + (x.cutM m).2.length ≤ x.g.last := by
   rcases Qa3 hfi with h1 | h1
   ·rw [h1]; simp; omega
   ·omega
  exact LT.mono ((LIn.commits (LT.rfl h) m hl).sent _) (by omega) (by omega) (by omega)
 | some p =>
  obtain ⟨i, l⟩ := p
  obtain ⟨a1, ⟨c, hc1, hc2⟩, a3⟩ := jG hfi
  dsimp only
  by_cases h1 : i ≤ x.commit
  ·rw [if_pos h1]; exact LT.mono (LT.rfl h) (by omega) (by omega) (by omega)
  ·rw [if_neg h1]
   have hi : x.commit ≤ i - 1 ∧ i - 1 ≤ x.g.last := by
    rcases a3 with a3 | ⟨e, a3⟩
    ·omega
    ·have := zn a3; omega
   have hll : l.length ≤ 20 := by rw [hc1]; simp; omega
   have h2 := h.add (i := i - 1) (m := l) hi (fun hr2 => absurd hr2 hr) (fun e he => hb3.2 e (by rw [hc1] at he; exact List.mem_of_mem_drop he))
   have hpl := yK (g := x.g) (i := i - 1) (m := l) (by have := h.commit; omega)
   have hle : (x.cutM m).1 + (x.cutM m).2.length ≤ (x.g.play (.add (i - 1) l)).last := by
    rw [hpl, hc1]
    have hcl : c < (x.cutM m).2.length := by
     by_cases hcl : c < (x.cutM m).2.length
     ·exact hcl
     ·have : l = [] := by rw [hc1]; exact List.drop_eq_nil_of_le (by omega)
      exfalso
      have key : ∀ {l : List Ent} {i j : Int} {l2 : List Ent}, ND.fits x.g l i = some (j, l2) → l2 ≠ [] := by
       intro l
       induction l with
       | nil => intro i j l2 h; cases h
       | cons e l ih =>
        intro i j l2 h
        by_cases h1 : (x.g.at i).map (·.1) = some e.1
        ·rw [qM h1] at h; exact ih h
        ·rw [qS h1] at h; cases h; simp
      exact key hfi this
    simp; omega
   exact LT.mono ((LIn.commits h2 m (last := (x.cutM m).1 + (x.cutM m).2.length) hle).sent _) (by omega) (by omega) (by omega)
theorem LIn.addP {T I : Int} {A : Nat} {x : ND} {m : Msg} (h : LIn T I A x) (hr : ¬ x.role = 2) (hm : MLn T I m) : LT T (I + 20) (A + 20) x (x.addP m) := by
 unfold ND.addP
 by_cases h1 : m.index < x.g.base ∧ (m.es.length : Int) < x.g.base - m.index
 ·rw [if_pos h1]; exact LT.mono ((LT.rfl h).sent _) (by omega) (by omega) (by omega)
 ·by_cases h2 : ¬ m.index < x.g.base ∧ ¬ x.g.termAt m.index = some m.logTerm
  ·rw [if_neg h1, if_pos h2]; exact LT.mono ((LT.rfl h).sent _) (by omega) (by omega) (by omega)
  ·rw [if_neg h1, if_neg h2]
   refine h.restP hr hm ?_
   unfold ND.cutM
   by_cases h3 : m.index < x.g.base
   ·rw [if_pos h3]; have := h.commit; dsimp only; omega
   ·rw [if_neg h3]
    have h4 : x.g.termAt m.index = some m.logTerm := by
     by_cases h4 : x.g.termAt m.index = some m.logTerm
     ·exact h4
     ·exact absurd ⟨h3, h4⟩ h2
    exact ZS h4
theorem QdN {g : LG} {i t : Int} {s : Bs} (hi : g.base ≤ i) : (g.inst i t s).base = i ∧ i ≤ (g.inst i t s).last ∧ (g.inst i t s).last ≤ max i g.last ∧ (g.inst i t s).all.length ≤ g.all.length ∧ (∀ e ∈ (g.inst i t s).all, e ∈ g.all) ∧ (g.inst i t s).term = g.term ∧ (g.inst i t s).vote = g.vote ∧ (g.inst i t s).state = s := by
 unfold LG.inst
 split
 ·rename_i h
  have h1 := ZS h
  unfold LG.comp LG.last at *
  dsimp only
  exact ⟨rfl, by omega, by simp; omega, by simp, fun e he => List.mem_of_mem_drop he, rfl, rfl, rfl⟩
 ·unfold LG.base0 LG.last
  dsimp only
  exact ⟨rfl, by simp, by simp; omega, by simp, fun e he => by simp at he, rfl, rfl, rfl⟩
theorem QhR {g : LG} {i t T : Int} {s : Bs} (h0 : 0 ≤ T) (hb : 0 ≤ g.baseT ∧ g.baseT ≤ T) (ha : ∀ e ∈ g.all, (0 ≤ e.1 ∧ e.1 ≤ T) ∧ e.2.length ≤ 100) (ht : 0 ≤ t ∧ t ≤ T) : 0 ≤ (g.inst i t s).baseT ∧ (g.inst i t s).baseT ≤ T := by
 unfold LG.inst
 split
 ·rename_i h
  unfold LG.comp
  dsimp only
  rw [h]; exact ht
 ·exact ht
theorem LIn.snapP {T I : Int} {A : Nat} {x : ND} {m : Msg} (h : LIn T I A x) (hr : ¬ x.role = 2) (hm : MLn T I m) : LT T I A x (x.snapP m) := by
 have hb := h.base
 have hcm := h.commit
 have hl := h.last
 have hal := h.alln
 have hix := hm.index
 have ht := h.term
 unfold ND.snapP
 by_cases h1 : m.index > x.commit
 ·rw [if_pos h1]
  obtain ⟨e1, e2, e3, e4, e5, e6, e7, e8⟩ := QdN (g := x.g) (i := m.index) (t := m.logTerm) (s := m.state) (by omega)
  refine LT.sent (x := x) (y := { x with g := x.g.inst m.index m.logTerm m.state, commit := m.index }) ⟨⟨h.idn, h.down, by rw [e6]; exact h.term, by rw [e7]; exact h.vote, by rw [e1]; omega, QhR (by omega) h.baseT h.all hm.logTerm, by show (x.g.inst m.index m.logTerm m.state).last ≤ I; omega, by rw [e8]; exact hm.state, Nat.le_trans e4 h.alln, fun e he => h.all e (e5 e he), ⟨by show (x.g.inst m.index m.logTerm m.state).base ≤ m.index; omega, e2⟩, h.patience, h.peers, h.peer, fun hr2 => absurd hr2 hr, h.votes⟩, ⟨Eq.refl _, Eq.refl _, by show x.commit ≤ m.index; omega, by rw [e1]; omega, fun i h2 h3 => by rw [e1] at h2; omega, .inr ⟨e6.symm, .inr e7.symm⟩⟩⟩ _
 ·rw [if_neg h1]
  exact (LT.rfl h).sent _
theorem LIn.follows {T I : Int} {A : Nat} {x : ND} {m : Msg} (h : LIn T I A x) : LT T I A x (x.follows m) :=
 ⟨⟨h.idn, h.down, h.term, h.vote, h.base, h.baseT, h.last, h.state, h.alln, h.all, h.commit, ⟨by show (0 : Int) ≤ 0; omega, by show (0 : Int) ≤ 30; omega⟩, fun hr => absurd (show (0 : Int) = 2 from hr) (by decide), h.peer, fun hr => absurd (show (0 : Int) = 2 from hr) (by decide), h.votes⟩, TR.same (Eq.refl _) (Eq.refl _) (Eq.refl _) (Int.le_refl _)⟩
theorem LIn.fedP {T I : Int} {A : Nat} {x : ND} {m : Msg} (h : LIn T I A x) (hm : MLn T I m) : LT T (I + 20) (A + 20) x (x.fedP m) := by
 have hf := LIn.follows (m := m) h
 have h0 : ¬ (x.follows m).role = 2 := fun hr => absurd (show (0 : Int) = 2 from hr) (by decide)
 unfold ND.fedP
 split
 ·exact LT.mono ((LT.rfl h).sent _) (by omega) (by omega) (by omega)
 ·split
  ·exact LT.mono (LT.rfl h) (by omega) (by omega) (by omega)
  ·split
   ·exact hf.trans (hf.inn.addP h0 hm)
   ·exact LT.mono (hf.trans (hf.inn.snapP h0 hm)) (by omega) (by omega) (by omega)
theorem LIn.setPeer {T I : Int} {A : Nat} {x : ND} (h : LIn T I A x) (to : Nat) {p : Int × Int} (hp : (1 ≤ p.1 ∧ p.1 ≤ I + 1) ∧ (0 ≤ p.2 ∧ p.2 ≤ x.g.last)) : LT T I A x (x.setPeer to p) := by
 have hl := h.last
 refine ⟨⟨h.idn, h.down, h.term, h.vote, h.base, h.baseT, h.last, h.state, h.alln, h.all, h.commit, h.patience, fun hr => by have := h.peers hr; unfold ND.setPeer; simpa using this, fun q hq => ?_, fun hr q hq => ?_, h.votes⟩, TR.same (Eq.refl _) (Eq.refl _) (Eq.refl _) (Int.le_refl _)⟩
 ·rcases List.mem_or_eq_of_mem_set (show q ∈ x.peers.set to p from hq) with hq | rfl
  ·exact h.peer q hq
  ·omega
 ·rcases List.mem_or_eq_of_mem_set (show q ∈ x.peers.set to p from hq) with hq | rfl
  ·exact h.pl hr q hq
  ·exact hp.2.2
theorem LIn.peerb {T I : Int} {A : Nat} {x : ND} (h : LIn T I A x) (hr : x.role = 2) (i : Nat) : (0 ≤ x.nxt i ∧ x.nxt i ≤ I + 1) ∧ (0 ≤ x.mat i ∧ x.mat i ≤ x.g.last) := by
 have h0 := h.base
 have hc := h.commit
 have hl := h.last
 unfold ND.nxt ND.mat
 by_cases h1 : i < x.peers.length
 ·have hm : x.peers.getD i (0, 0) ∈ x.peers := by rw [List.getD_eq_getElem?_getD, List.getElem?_eq_getElem h1]; simp
  have h2 := h.peer _ hm
  have h3 := h.pl hr _ hm
  omega
 ·rw [List.getD_eq_getElem?_getD, List.getElem?_eq_none (by omega)]
  simp; omega
theorem LIn.heardP {T I : Int} {A : Nat} {x : ND} {m : Msg} (h : LIn T I A x) (hm : MLn T I m) : LT T I A x (x.heardP m) := by
 have hix := hm.index
 have h0 := h.base
 have hcm := h.commit
 have hl := h.last
 unfold ND.heardP Yb
 dsimp only
 by_cases h1 : ¬ x.role = 2 ∨ ¬ m.term = x.g.term
 ·rw [if_pos h1]; exact LT.rfl h
 ·have hr : x.role = 2 := by
   by_cases hr : x.role = 2
   ·exact hr
   ·exact absurd (.inl hr) h1
  have hp := h.peerb hr m.frm.toNat
  rw [if_neg h1]
  by_cases h2 : m.ok = false
  ·rw [if_pos h2]
   exact (h.setPeer m.frm.toNat (p := (max (min (x.nxt m.frm.toNat - 1) (m.index + 1)) (x.mat m.frm.toNat + 1), x.mat m.frm.toNat)) (by dsimp only; omega)).sent _
  ·rw [if_neg h2]
   have h3 := h.setPeer m.frm.toNat (p := (max (x.mat m.frm.toNat) (min m.index x.g.last) + 1, max (x.mat m.frm.toNat) (min m.index x.g.last))) (by dsimp only; omega)
   have h4 := h3.trans (LIn.count h3.inn hr)
   split
   ·exact h4.sent _
   ·exact h4
theorem LIn.kindP {T I : Int} {A : Nat} {x : ND} {m : Msg} (h : LIn T I A x) (hm : MLn T I m) (hf : 0 ≤ m.frm ∧ m.frm < x.n) : LT T (I + 20) (A + 20) x (x.kindP m) := by
 unfold ND.kindP
 split
 ·exact LT.mono (h.askedP hf) (by omega) (by omega) (by omega)
 ·split
  ·exact LT.mono (h.votedP hf) (by omega) (by omega) (by omega)
  ·split
   ·exact h.fedP hm
   ·split
    ·exact LT.mono (h.heardP hm) (by omega) (by omega) (by omega)
    ·exact LT.mono (LT.rfl h) (by omega) (by omega) (by omega)
theorem LIn.newTerm {T I : Int} {A : Nat} {x : ND} (h : LIn T I A x) : LIn T I A x.newTerm :=
 ⟨h.idn, h.down, h.term, h.vote, h.base, h.baseT, h.last, h.state, h.alln, h.all, h.commit, h.patience, fun hr => absurd (show (0 : Int) = 2 from hr) (by decide), h.peer, fun hr => absurd (show (0 : Int) = 2 from hr) (by decide), h.votes⟩
theorem LIn.receiveP {T I : Int} {A : Nat} {x : ND} {m : Msg} (h : LIn T I A x) (hm : MLn T I m) : LT T (I + 20) (A + 20) x (x.receiveP m) := by
 have ht := h.term
 unfold ND.receiveP
 by_cases h1 : ¬ m.to = x.id ∨ m.frm = x.id ∨ m.frm < 0 ∨ m.frm ≥ x.n
 ·rw [if_pos h1]; exact LT.mono (LT.rfl h) (by omega) (by omega) (by omega)
 ·rw [if_neg h1]
  have hf : 0 ≤ m.frm ∧ m.frm < x.n := by omega
  by_cases h2 : m.term > x.g.term
  ·rw [if_pos h2]
   have h3 := h.set (t := m.term) (v := -1) hm.term (by omega) (.inl (by omega))
   have h4 : LT T I A x (ND.newTerm { x with g := { x.g with term := m.term, vote := -1 } }) := ⟨h3.inn.newTerm, h3.tr.trans (TR.same (Eq.refl _) (Eq.refl _) (Eq.refl _) (Int.le_refl _))⟩
   exact h4.trans (h4.inn.kindP hm hf)
  ·rw [if_neg h2]; exact h.kindP hm hf
theorem Qmm {g : LG} {i j : Int} {s : Bs} (hi : g.base ≤ i ∧ i ≤ g.last) (hj : i < j) : (g.comp i s).at j = g.at j := by
 have hl : (g.comp i s).last = g.last := by unfold LG.comp LG.last at *; simp; omega
 have hb : (g.comp i s).base = i := rfl
 by_cases h1 : j ≤ g.last
 ·rw [QcO (g := g) (by omega), QcO (by omega), hb]
  show (g.all.drop (i - g.base).toNat)[_]? = _
  rw [List.getElem?_drop]
  congr 1; omega
 ·rw [jM (g := g) (by omega), jM (by omega)]
theorem LIn.comp {T I : Int} {A : Nat} {x : ND} (h : LIn T I A x) {i : Int} {s : Bs} (hi : x.g.base ≤ i ∧ i ≤ x.commit) (hs : s.length ≤ 1000000) : LT T I A x { x with g := x.g.comp i s } := by
 have hb := h.base
 have hc := h.commit
 have hl : (x.g.comp i s).last = x.g.last := by unfold LG.comp LG.last at *; simp; omega
 have ht := h.term
 refine ⟨⟨h.idn, h.down, h.term, h.vote, by show 0 ≤ i; omega, ?_, by rw [hl]; exact h.last, hs, by have := h.alln; show (x.g.all.drop _).length ≤ A; simp; omega, fun e he => h.all e (List.mem_of_mem_drop he), ⟨by show i ≤ x.commit; omega, by rw [hl]; exact h.commit.2⟩, h.patience, h.peers, h.peer, fun hr p hp => by rw [hl]; exact h.pl hr p hp, h.votes⟩, ⟨Eq.refl _, Eq.refl _, Int.le_refl _, by show x.g.base ≤ i; omega, fun j hj hjc => Qmm (by omega) hj, .inr ⟨Eq.refl _, .inr (Eq.refl _)⟩⟩⟩
 show 0 ≤ (x.g.termAt i).getD 0 ∧ (x.g.termAt i).getD 0 ≤ T
 unfold LG.termAt
 split
 ·exact h.baseT
 ·cases h1 : x.g.at i with
  | none => simp; omega
  | some e => exact (h.all e (LG.at_mem h1)).1
theorem LIn.start {id n : Nat} {g : LG} {T I : Int} {A : Nat} (hid : id < n ∧ n ≤ 9) (hT : 0 ≤ g.term ∧ g.term ≤ T) (hv : -1 ≤ g.vote ∧ g.vote < 9) (hb : 0 ≤ g.base) (hbT : 0 ≤ g.baseT ∧ g.baseT ≤ T) (hl : g.last ≤ I) (hs : g.state.length ≤ 1000000) (hA : g.all.length ≤ A) (ha : ∀ e ∈ g.all, (0 ≤ e.1 ∧ e.1 ≤ T) ∧ e.2.length ≤ 100) : LIn T I A (ND.start id n g) :=
 ⟨hid, rfl, hT, hv, hb, hbT, hl, hs, hA, ha, ⟨Int.le_refl _, by show g.base ≤ g.last; unfold LG.last; omega⟩, by show (0 : Int) ≤ 0 ∧ (0 : Int) ≤ 30; omega, fun hr => absurd (show (0 : Int) = 2 from hr) (by decide), fun p hp => by simp [ND.start] at hp, fun hr => absurd (show (0 : Int) = 2 from hr) (by decide), by simp [ND.start], fun i hi => by simp [ND.start] at hi⟩
def SD (n : Nat) (g : LG) (D : DK) : Prop := D.down = false ∧ D.sure = D.b.length ∧ (-9223372036854775808 ≤ D.fuel ∧ D.fuel ≤ 9223372036854775807 ∧ (D.bound = true → 0 ≤ D.fuel)) ∧ g.down = false ∧ D.b.length ≤ n ∧ ∃ rs, D.b = QZ rs ∧ Plays LG.new rs g
theorem SD.okD {n : Nat} {g : LG} {D : DK} (h : SD n g D) : D.ok n := by
 obtain ⟨h1, h2, h3, h4, h5, _⟩ := h
 exact ⟨by omega, h5, h3⟩
theorem SD.mono {n m : Nat} {g : LG} {D : DK} (h : SD n g D) (hm : n ≤ m) : SD m g D := by
 obtain ⟨h1, h2, h3, h4, h5, h6⟩ := h
 exact ⟨h1, h2, h3, h4, by omega, h6⟩
theorem SD.new : SD 0 LG.new DK.new := ⟨rfl, rfl, by decide, rfl, Nat.le_refl _, [], rfl, .nil _ LG.new_ok⟩
def FD (n : Nat) (P : LG → Prop) (D : DK) : Prop := D.ok n ∧ D.down = true ∧ ∀ keep : Int, ∃ rs p g, (D.crash keep).b = QZ rs ++ p ∧ ZL p ∧ Plays LG.new rs g ∧ g.down = false ∧ P g
theorem FD.imp {n m : Nat} {P Q : LG → Prop} {D : DK} (h : FD n P D) (hm : n ≤ m) (hP : ∀ g, P g → Q g) : FD m Q D := by
 obtain ⟨⟨a1, a2, a3⟩, h2, h3⟩ := h
 refine ⟨⟨a1, by omega, a3⟩, h2, fun keep => ?_⟩
 obtain ⟨rs, p, g, b1, b2, b3, b4, b5⟩ := h3 keep
 exact ⟨rs, p, g, b1, b2, b3, b4, hP g b5⟩
theorem QeC {D : DK} (hd : D.down = false) (hf : -9223372036854775808 ≤ D.fuel ∧ D.fuel ≤ 9223372036854775807 ∧ (D.bound = true → 0 ≤ D.fuel)) :
  (D.step.1 = true ∧ ∃ f, D.step.2 = { D with fuel := f } ∧ (-9223372036854775808 ≤ f ∧ f ≤ 9223372036854775807 ∧ (D.bound = true → 0 ≤ f))) ∨ (D.step.1 = false ∧ D.step.2 = { D with down := true }) := by
 unfold DK.step
 rw [if_neg (by simp [hd])]
 by_cases hb : D.bound = true
 ·rw [if_pos hb]
  have h0 := hf.2.2 hb
  by_cases h1 : D.fuel = 0
  ·rw [if_pos h1]; exact .inr ⟨rfl, rfl⟩
  ·rw [if_neg h1]; exact .inl ⟨rfl, _, rfl, by omega, by omega, fun _ => by omega⟩
 ·rw [if_neg hb]; exact .inl ⟨rfl, D.fuel, rfl, hf⟩
theorem QdY {D : DK} (h : D.sure = D.b.length) (keep : Int) : (D.crash keep).b = D.b := by
 unfold DK.crash DK.keeps
 dsimp only
 exact List.take_of_length_le (by omega)
theorem SD.fd {n : Nat} {g : LG} {D : DK} {P : LG → Prop} (h : SD n g D) (hP : P g) : FD n P { D with down := true } := by
 have hk := h.okD
 obtain ⟨h1, h2, h3, h4, h5, rs, h6, h7⟩ := h
 refine ⟨hk, rfl, fun keep => ⟨rs, [], g, ?_, jR, h7, h4, hP⟩⟩
 rw [QdY (D := { D with down := true }) h2]
 simpa using h6
theorem QkS {n : Nat} {g : LG} {D : DK} {r : Rec} {k : Nat} (h : SD n g D) (hm : r.may g) (hl : (wr r.nd).length ≤ k) (hk : k ≤ 16777216) (ho : (g.play r).ok) {P : LG → Prop} (hP0 : P g) (hP1 : P (g.play r)) :
  ((D.put r.bytes).1 = 0 ∧ SD (n + 4 + k) (g.play r) (D.put r.bytes).2) ∨ (¬ (D.put r.bytes).1 = 0 ∧ FD (n + 4 + k) P (D.put r.bytes).2) := by
 have h' := h
 obtain ⟨h1, h2, h3, h4, h5, rs, h6, h7⟩ := h
 have hbl : r.bytes.length ≤ 4 + k := by unfold Rec.bytes; rw [List.length_append, Yy]; omega
 rcases QeC h1 h3 with ⟨e1, f, e2, hf⟩ | ⟨e1, e2⟩
 ·unfold DK.put DK.append
  rw [if_pos e1]
  simp only [ite_true]
  rw [e2]
  unfold DK.sync
  rcases QeC (D := { { D with fuel := f } with b := D.b ++ r.bytes }) h1 hf with ⟨e3, f2, e4, hf2⟩ | ⟨e3, e4⟩
  ·rw [if_pos e3, e4]
   refine .inl ⟨rfl, h1, rfl, hf2, by rw [zV]; exact h4, ?_, rs ++ [r], by rw [jW, ← h6], h7.snoc hm (by omega) ho⟩
   show (D.b ++ r.bytes).length ≤ _
   rw [List.length_append]; omega
  ·rw [if_neg (by simp [e3]), e4]
   refine .inr ⟨(by show ¬ (3 : Int) = 0; decide), ⟨?_, ?_, hf⟩, rfl, fun keep => ?_⟩
   ·show D.sure ≤ (D.b ++ r.bytes).length
    rw [List.length_append]; omega
   ·show (D.b ++ r.bytes).length ≤ _
    rw [List.length_append]; omega
   ·have ec : (DK.crash { { { D with fuel := f } with b := D.b ++ r.bytes } with down := true } keep).b = D.b ++ r.bytes.take (min keep.toNat r.bytes.length) := by
     unfold DK.crash DK.keeps
     dsimp only
     rw [h2, show (D.b ++ r.bytes).length - D.b.length = r.bytes.length by simp, List.take_length_add_append]
    have ec2 := ec
    by_cases hc : min keep.toNat r.bytes.length < r.bytes.length
    ·exact ⟨rs, _, g, by rw [← h6]; exact ec, QjB (by omega) hc, h7, h4, hP0⟩
    ·refine ⟨rs ++ [r], [], g.play r, ?_, jR, h7.snoc hm (by omega) ho, by rw [zV]; exact h4, hP1⟩
     rw [jW, ← h6, List.append_nil]
     rw [List.take_of_length_le (by omega)] at ec2
     exact ec2
 ·have ea : D.append r.bytes = (3, { D with down := true }) := by unfold DK.append; rw [if_neg (by simp [e1]), e2]
  have ep : D.put r.bytes = (3, { D with down := true }) := by unfold DK.put; rw [ea]; rfl
  rw [ep]
  exact .inr ⟨(by show ¬ (3 : Int) = 0; decide), (h'.fd hP0).imp (by omega) (fun _ h => h)⟩
theorem Qew {n : Nat} {g to : LG} {D : DK} (h : SD n g D) (ht : to.ok) (htd : to.down = false) (hw : (wr (Rec.all to).nd).length ≤ 16777216) (hn : 17000000 ≤ n) {P : LG → Prop} (hP0 : P g) :
  ((D.swap (Rec.all to).bytes).1 = 0 ∧ SD n to (D.swap (Rec.all to).bytes).2) ∨ (¬ (D.swap (Rec.all to).bytes).1 = 0 ∧ FD n P (D.swap (Rec.all to).bytes).2) := by
 have h' := h
 obtain ⟨h1, h2, h3, h4, h5, rs, h6, h7⟩ := h
 unfold DK.swap
 rcases QeC h1 h3 with ⟨e1, f, e2, hf⟩ | ⟨e1, e2⟩
 ·rw [if_pos e1, e2]
  have hp : LG.new.play (.all to) = to := by
   show { to with down := false } = to
   cases to; simp at htd; subst htd; rfl
  refine .inl ⟨rfl, h1, rfl, hf, htd, ?_, [Rec.all to], by simp [QZ], .cons LG.new_ok ht hw ?_⟩
  ·show (Rec.all to).bytes.length ≤ n
   unfold Rec.bytes; rw [List.length_append, Yy]; omega
  ·rw [hp]; exact .nil _ ht
 ·rw [if_neg (by simp [e1]), e2]
  exact .inr ⟨(by show ¬ (3 : Int) = 0; decide), h'.fd hP0⟩
theorem Qm6 {n : Nat} {P : LG → Prop} {D : DK} (hk : D.ok n) (h : ∀ keep : Int, ∃ rs p g, (D.crash keep).b = QZ rs ++ p ∧ ZL p ∧ Plays LG.new rs g ∧ g.down = false ∧ P g) (keep : Int) :
  ∃ rs p g, (D.crash keep).ok n ∧ (D.crash keep).b = QZ rs ++ p ∧ ZL p ∧ Plays LG.new rs g ∧ P g ∧ ((D.crash keep).open rs p).1 = 0 ∧ SD n g ((D.crash keep).open rs p).2 := by
 obtain ⟨rs, p, g, h1, h2, h3, h4, h5⟩ := h keep
 obtain ⟨k1, k2, k3, k4, k5⟩ := hk
 have hkl : D.keeps keep ≤ D.b.length := by unfold DK.keeps; omega
 have hbl : (D.crash keep).b.length = D.keeps keep := by unfold DK.crash; simp; omega
 have hcd : (D.crash keep).down = false := rfl
 have hcb : (D.crash keep).bound = false := rfl
 have hcf : (D.crash keep).fuel = D.fuel := rfl
 have hcs : (D.crash keep).sure = D.keeps keep := rfl
 have hok : (D.crash keep).ok n := ⟨by rw [hcs, hbl]; exact Nat.le_refl _, by rw [hbl]; omega, by rw [hcf]; exact k3, by rw [hcf]; exact k4, fun h => by rw [hcb] at h; cases h⟩
 refine ⟨rs, p, g, hok, h1, h2, h3, h5, ?_⟩
 unfold DK.open
 rw [if_neg (by simp [hcd])]
 by_cases hp : p = []
 ·rw [if_pos hp]
  exact ⟨rfl, hcd, by rw [hcs, hbl], ⟨by rw [hcf]; exact k3, by rw [hcf]; exact k4, fun h => by rw [hcb] at h; cases h⟩, h4, by rw [hbl]; omega, rs, by rw [h1, hp]; simp, h3⟩
 ·rw [if_neg hp]
  have hs : (D.crash keep).step = (true, D.crash keep) := by unfold DK.step; rw [if_neg (by rw [hcd]; decide), if_neg (by rw [hcb]; decide)]
  unfold DK.swap
  rw [hs, if_pos rfl]
  refine ⟨rfl, hcd, rfl, ⟨by show _ ≤ (D.crash keep).fuel; rw [hcf]; exact k3, by show (D.crash keep).fuel ≤ _; rw [hcf]; exact k4, fun h => by rw [show ({ (D.crash keep) with b := QZ rs, sure := (QZ rs).length } : DK).bound = false from hcb] at h; cases h⟩, h4, ?_, rs, rfl, h3⟩
  show (QZ rs).length ≤ n
  have : (D.crash keep).b.length = (QZ rs).length + p.length := by rw [h1, List.length_append]
  omega
theorem SD.crash_any {n : Nat} {g : LG} {D : DK} (h : SD n g D) {P : LG → Prop} (hP : P g) : ∀ keep : Int, ∃ rs p g, (D.crash keep).b = QZ rs ++ p ∧ ZL p ∧ Plays LG.new rs g ∧ g.down = false ∧ P g := fun keep => by
 obtain ⟨h1, h2, h3, h4, h5, rs, h6, h7⟩ := h
 exact ⟨rs, [], g, by rw [QdY h2, h6]; simp, jR, h7, h4, hP⟩
def Fx (n : Nat) (P : LG → Prop) (r : Bool × NS) (y : ND) : Prop := (r.1 = true ∧ r.2.1 = y ∧ SD n y.g r.2.2) ∨ (r.1 = false ∧ r.2.1.down = true ∧ FD n P r.2.2)
theorem Fx.bind {n m : Nat} {P : LG → Prop} {r : Bool × NS} {y z : ND} {f : NS → Bool × NS} (h : Fx n P r y) (hm : n ≤ m) (hf : ∀ D, SD n y.g D → Fx m P (f (y, D)) z) : Fx m P (QU r f) z := by
 unfold QU
 rcases h with ⟨h1, h2, h3⟩ | ⟨h1, h2, h3⟩
 ·rw [if_pos h1, show r.2 = (y, r.2.2) from by rw [← h2]]
  exact hf _ h3
 ·rw [if_neg (by simp [h1])]
  exact .inr ⟨h1, h2, h3.imp hm (fun _ h => h)⟩
theorem Fx.ret {n m : Nat} {P : LG → Prop} {y : ND} {D : DK} {g : LG} (h : SD n g D) (hg : y.g = g) (hm : n ≤ m) : Fx m P (true, (y, D)) y := .inl ⟨rfl, rfl, by rw [hg]; exact h.mono hm⟩
theorem Fx.mono {n m : Nat} {P : LG → Prop} {r : Bool × NS} {y : ND} (h : Fx n P r y) (hm : n ≤ m) : Fx m P r y := by
 rcases h with ⟨h1, h2, h3⟩ | ⟨h1, h2, h3⟩
 ·exact .inl ⟨h1, h2, h3.mono hm⟩
 ·exact .inr ⟨h1, h2, h3.imp hm (fun _ h => h)⟩
theorem Qcr {n k : Nat} {x : ND} {D : DK} {P : LG → Prop} (hk : k ≤ 90) (hl : SD n x.g D) (hx : NIn k x) {i : Int} {m : List Ent} (hi : x.g.base ≤ i ∧ i ≤ x.g.last) (hm : ∀ e ∈ m, (0 ≤ e.1 ∧ e.1 ≤ 2305843009213693952 + k) ∧ e.2.length ≤ 100) (hn : m.length ≤ 20) (hP0 : P x.g) (hP1 : P (x.g.play (.add i m))) :
  Fx (n + 3000) P (QP (x, D) (x.g.addD D i m)) { x with g := x.g.play (.add i m) } := by
 have hg2 := (hx.add (i := i) hm hn).g (by omega)
 have hb := hx.base
 have hal := hx.alln
 have hle : x.g.last = x.g.base + x.g.all.length := rfl
 have hen := jJ (fun e he => (hm e he).2)
 have hmb : ∀ e ∈ m, QM e.1 ∧ e.2.length ≤ 1000000 := fun e he => by have := hm e he; unfold QM; omega
 have hln := Rec.len_add (b := i) (by omega) hmb (by omega)
 have hgd : ¬ (x.g.down || D.down) = true := by simp [hl.1, hl.2.2.2.1]
 unfold LG.addD
 rw [if_neg hgd, if_neg (by omega)]
 rcases QkS hl (r := .add i m) (k := 2900) ⟨hi, hmb, by omega⟩ (by omega) (by omega) hg2 hP0 hP1 with ⟨p1, p2⟩ | ⟨p1, p2⟩
 ·rw [if_pos p1]
  unfold QP
  rw [if_pos rfl]
  exact .inl ⟨rfl, rfl, p2.mono (by omega)⟩
 ·rw [if_neg p1]
  unfold QP
  rw [if_neg p1]
  exact .inr ⟨rfl, rfl, p2.imp (by omega) (fun _ h => h)⟩
theorem yi {n k : Nat} {x : ND} {D : DK} {P : LG → Prop} (hk : k ≤ 90) (hl : SD n x.g D) (hx : NIn k x) {t v : Int} (ht : x.g.term ≤ t ∧ t ≤ 2305843009213693952 + (k + 1)) (hv : -1 ≤ v ∧ v < 9) (hP0 : P x.g) (hP1 : P { x.g with term := t, vote := v }) :
  Fx (n + 3000) P (QP (x, D) (x.g.setTermD D t v)) { x with g := { x.g with term := t, vote := v } } := by
 have hterm := hx.term
 have hg2 := (hx.set (t := t) (vt := v) (by omega) hv).g (by omega)
 have hln := Rec.len_term (t := t) (v := v) (by unfold QM; omega) (by omega)
 have hgd : ¬ (x.g.down || D.down) = true := by simp [hl.1, hl.2.2.2.1]
 unfold LG.setTermD
 rw [if_neg hgd, if_neg (by omega)]
 rcases QkS hl (r := .term t v) (k := 2900) ⟨by unfold QM; omega, hv.1, by omega⟩ (by omega) (by omega) hg2 hP0 hP1 with ⟨p1, p2⟩ | ⟨p1, p2⟩
 ·rw [if_pos p1]
  unfold QP
  rw [if_pos rfl]
  exact .inl ⟨rfl, rfl, p2.mono (by omega)⟩
 ·rw [if_neg p1]
  unfold QP
  rw [if_neg p1]
  exact .inr ⟨rfl, rfl, p2.imp (by omega) (fun _ h => h)⟩
theorem Qf1 {n : Nat} {x : ND} {D : DK} {P : LG → Prop} {to : LG} (hl : SD n x.g D) (ht : to.ok) (htd : to.down = false) (hw : (wr (Rec.all to).nd).length ≤ 16777216) (hn : 17000000 ≤ n) (hP0 : P x.g) : Fx n P (QP (x, D) (x.g.swapD D to)) { x with g := to } := by
 unfold LG.swapD
 rcases Qew hl ht htd hw hn hP0 with ⟨p1, p2⟩ | ⟨p1, p2⟩
 ·rw [if_pos p1]
  unfold QP
  rw [if_pos rfl]
  exact .inl ⟨rfl, rfl, p2⟩
 ·rw [if_neg p1]
  unfold QP
  rw [if_neg p1]
  exact .inr ⟨rfl, rfl, p2⟩
theorem Qf2 {n k : Nat} {x : ND} {D : DK} {P : LG → Prop} (hk : k ≤ 90) (hl : SD n x.g D) {i t : Int} {s : Bs} (hi : x.g.base < i) (hy : NIn k { x with g := x.g.inst i t s }) (hn : 17000000 ≤ n) (hP0 : P x.g) : Fx n P (QP (x, D) (x.g.instD D i t s)) { x with g := x.g.inst i t s } := by
 have hgd : ¬ (x.g.down || D.down) = true := by simp [hl.1, hl.2.2.2.1]
 have hok := hy.g (by omega)
 have hd : (x.g.inst i t s).down = false := by unfold LG.inst; split <;> exact hl.2.2.2.1
 have hw := Qai (x := { x with g := x.g.inst i t s }) hk hy
 have e : x.g.instD D i t s = x.g.swapD D (x.g.inst i t s) := by
  unfold LG.instD LG.inst
  rw [if_neg hgd, if_neg (by omega)]
  by_cases h1 : x.g.termAt i = some t
  ·have h2 := ZS h1
   rw [if_pos h1, if_pos h1]
   unfold LG.compD
   rw [if_neg hgd, if_neg (by omega)]
  ·rw [if_neg h1, if_neg h1]
 rw [e]
 exact Qf1 hl hok hd hw hn hP0
theorem Qdk {n k : Nat} {x : ND} {D : DK} {P : LG → Prop} {cmd : Bs} (hk : k ≤ 90) (hl : SD n x.g D) (hx : NIn k x) (hc : cmd.length ≤ 100) (hP0 : P x.g) (hP1 : P (x.entryP cmd).g) : Fx (n + 3000) P (QQ (x, D) cmd) (x.entryP cmd) := by
 have ht := hx.term
 have hle : x.g.last = x.g.base + x.g.all.length := rfl
 have hP2 : P (x.g.play (.add x.g.last [(x.g.term, cmd)])) := by
  have : (x.entryP cmd).g = x.g.play (.add x.g.last [(x.g.term, cmd)]) := by unfold ND.entryP; rw [Zy, ZI]
  rw [this] at hP1; exact hP1
 exact Fx.bind (Qcr (i := x.g.last) (m := [(x.g.term, cmd)]) hk hl hx ⟨by omega, Int.le_refl _⟩ (fun e he => by simp at he; subst he; exact ⟨⟨by omega, by omega⟩, hc⟩) (by simp) hP0 hP2) (Nat.le_refl _) (fun D' h => Fx.ret h (by rw [Zy, ZI]) (Nat.le_refl _))
theorem Qg5 {n k : Nat} {x : ND} {D : DK} {P : LG → Prop} (hk : k ≤ 90) (hl : SD n x.g D) (hx : NIn k x) (hP0 : P x.g) (hP1 : P x.winP.g) : Fx (n + 3000) P (Zs (x, D)) x.winP :=
 Qdk (x := x.wins) hk hl (NIn.wins (by omega) hx) (by simp) hP0 hP1
theorem Qln {n k : Nat} {x : ND} {D : DK} {P : LG → Prop} (hk : k ≤ 80) (hl : SD n x.g D) (hx : NIn k x) (hP0 : P x.g) (hP1 : P { x.g with term := x.g.term + 1, vote := x.id }) (hP2 : P x.standP.g) : Fx (n + 6000) P (Yh (x, D)) x.standP := by
 have ht := hx.term
 have hid := hx.idn
 refine Fx.bind (yi (by omega) hl hx (t := x.g.term + 1) (v := x.id) (by omega) (by omega) hP0 hP1) (by omega) (fun D' h => ?_)
 have h1 := (hx.set (t := x.g.term + 1) (vt := x.id) (by omega) (by omega)).stands
 unfold ND.standP at hP2 ⊢
 dsimp only
 by_cases hn : x.n = 1
 ·rw [if_pos hn] at hP2
  rw [if_pos hn, if_pos hn]
  exact Qg5 (k := k + 1) (by omega) h h1 hP1 hP2
 ·rw [if_neg hn, if_neg hn]
  exact Fx.ret h (Qar _) (by omega)
theorem QmH {n k : Nat} {x : ND} {D : DK} {P : LG → Prop} (hk : k ≤ 70) (hl : SD n x.g D) (hx : NIn k x) (hP0 : P x.g) (hP1 : P { x.g with term := x.g.term + 1, vote := x.id }) (hP2 : P x.tickP.g) : Fx (n + 6000) P (tickN (x, D)) x.tickP := by
 have hp := hx.patience
 unfold ND.tickP at hP2
 unfold tickN ND.tickP
 dsimp only
 by_cases h1 : x.role = 2
 ·rw [if_pos h1, if_pos h1]
  by_cases h2 : x.patience + 1 ≥ 3
  ·rw [if_pos h2, if_pos h2]; exact Fx.ret hl (Zy _) (by omega)
  ·rw [if_neg h2, if_neg h2]; exact Fx.ret hl rfl (by omega)
 ·rw [if_neg h1] at hP2
  rw [if_neg h1, if_neg h1]
  by_cases h2 : x.patience + 1 ≥ Zi x.id x.g.term
  ·rw [if_pos h2] at hP2
   rw [if_pos h2, if_pos h2]
   exact Qln (k := k + 1) (x := { x with patience := x.patience + 1 }) (by omega) hl ((hx.le (show k ≤ k + 1 by omega)).pat (by omega)) hP0 hP1 hP2
  ·rw [if_neg h2, if_neg h2]; exact Fx.ret hl rfl (by omega)
theorem Qmu {n k : Nat} {x : ND} {D : DK} {m : Msg} {P : LG → Prop} (hk : k ≤ 70) (hl : SD n x.g D) (hx : NIn k x) (hm : MIn k x.n m) (hP0 : P x.g) (hP1 : P (x.askedP m).g) : Fx (n + 3000) P (Zd (x, D) m) (x.askedP m) := by
 have hf := hm.frm
 have hid := hx.idn
 have ht := hx.term
 unfold ND.askedP at hP1
 unfold Zd ND.askedP
 dsimp only
 by_cases h1 : x.grants m = true
 ·rw [if_pos h1] at hP1
  rw [if_pos h1, if_pos h1]
  exact Fx.bind (yi (by omega) hl hx (t := x.g.term) (v := m.frm) (by omega) (by omega) hP0 hP1) (Nat.le_refl _) (fun D' h => Fx.ret h rfl (Nat.le_refl _))
 ·rw [if_neg h1, if_neg h1]; exact Fx.ret hl rfl (by omega)
theorem Qla {n k : Nat} {x : ND} {D : DK} {m : Msg} {P : LG → Prop} (hk : k ≤ 70) (hl : SD n x.g D) (hx : NIn k x) (hm : MIn k x.n m) (hP0 : P x.g) (hP1 : P (x.votedP m).g) : Fx (n + 3000) P (Yg (x, D) m) (x.votedP m) := by
 unfold ND.votedP at hP1
 unfold Yg ND.votedP
 dsimp only
 by_cases h1 : ¬ x.role = 1 ∨ ¬ m.term = x.g.term ∨ m.ok = false
 ·rw [if_pos h1, if_pos h1]; exact Fx.ret hl rfl (by omega)
 ·rw [if_neg h1] at hP1
  rw [if_neg h1, if_neg h1]
  by_cases h2 : 2 * ((QW x.votes m.frm).length : Int) > x.n
  ·rw [if_pos h2] at hP1
   rw [if_pos h2, if_pos h2]
   exact Qg5 (k := k) (x := { x with votes := QW x.votes m.frm }) (by omega) hl (hx.vote1 hm.frm) hP0 hP1
  ·rw [if_neg h2, if_neg h2]; exact Fx.ret hl rfl (by omega)
theorem Qm0 {n k : Nat} {x : ND} {D : DK} {m : Msg} {P : LG → Prop} (hk : k ≤ 70) (hl : SD n x.g D) (hx : NIn k x) (hm : MIn k x.n m) (hc : x.g.base ≤ (x.cutM m).1 ∧ (x.cutM m).1 ≤ x.g.last) (hP0 : P x.g) (hP1 : P (x.restP m (x.cutM m)).g) : Fx (n + 3000) P (yE x D m (x.cutM m)) (x.restP m (x.cutM m)) := by
 obtain ⟨hb1, hb2, hb3⟩ := Qfz hx hm
 unfold ND.restP at hP1
 unfold yE ND.restP
 cases hfi : ND.fits x.g (x.cutM m).2 ((x.cutM m).1 + 1) with
 | none => exact Fx.ret hl rfl (by omega)
 | some p =>
  obtain ⟨i, l⟩ := p
  obtain ⟨a1, ⟨c, hc1, hc2⟩, a3⟩ := jG hfi
  rw [hfi] at hP1
  dsimp only at hP1 ⊢
  by_cases h1 : i ≤ x.commit
  ·rw [if_pos h1, if_pos h1]; exact Fx.ret hl rfl (by omega)
  ·rw [if_neg h1] at hP1
   rw [if_neg h1, if_neg h1]
   have hi : x.g.base ≤ i - 1 ∧ i - 1 ≤ x.g.last := by
    rcases a3 with a3 | ⟨e, a3⟩
    ·omega
    ·have := zn a3; omega
   exact Fx.bind (Qcr (i := i - 1) (m := l) (by omega) hl hx hi (fun e he => hb3 e (by rw [hc1] at he; exact List.mem_of_mem_drop he)) (by rw [hc1]; simp; omega) hP0 hP1) (Nat.le_refl _) (fun D' h => Fx.ret h rfl (Nat.le_refl _))
theorem Qn4 {n k : Nat} {x : ND} {D : DK} {m : Msg} {P : LG → Prop} (hk : k ≤ 70) (hl : SD n x.g D) (hx : NIn k x) (hm : MIn k x.n m) (hP0 : P x.g) (hP1 : P (x.addP m).g) : Fx (n + 3000) P (Zr (x, D) m) (x.addP m) := by
 unfold ND.addP at hP1
 unfold ND.addP
 by_cases h1 : m.index < x.g.base ∧ (m.es.length : Int) < x.g.base - m.index
 ·unfold Zr
  rw [if_pos h1, if_pos h1]; exact Fx.ret hl rfl (by omega)
 ·by_cases h2 : ¬ m.index < x.g.base ∧ ¬ x.g.termAt m.index = some m.logTerm
  ·unfold Zr
   rw [if_neg h1, if_neg h1, if_pos h2, if_pos h2]; exact Fx.ret hl rfl (by omega)
  ·rw [if_neg h1, if_neg h2] at hP1
   rw [Qbp h1 h2, if_neg h1, if_neg h2]
   refine Qm0 hk hl hx hm ?_ hP0 hP1
   unfold ND.cutM
   by_cases h3 : m.index < x.g.base
   ·rw [if_pos h3]; unfold LG.last; dsimp only; omega
   ·rw [if_neg h3]
    have h4 : x.g.termAt m.index = some m.logTerm := by
     by_cases h4 : x.g.termAt m.index = some m.logTerm
     ·exact h4
     ·exact absurd ⟨h3, h4⟩ h2
    exact ZS h4
theorem QmQ {n k : Nat} {x : ND} {D : DK} {m : Msg} {P : LG → Prop} (hn : 17000000 ≤ n) (hk : k ≤ 70) (hl : SD n x.g D) (hx : NIn k x) (hm : MIn k x.n m) (hb : x.g.base ≤ x.commit) (hP0 : P x.g) : Fx (n + 3000) P (yC (x, D) m) (x.snapP m) := by
 unfold yC ND.snapP
 dsimp only
 by_cases h1 : m.index > x.commit
 ·rw [if_pos h1, if_pos h1]
  have hy := hx.inst hm.index hm.logTerm hm.state
  exact Fx.bind (Qf2 (k := k) (by omega) hl (i := m.index) (t := m.logTerm) (s := m.state) (by omega) hy hn hP0) (by omega) (fun D' h => Fx.ret h rfl (by omega))
 ·rw [if_neg h1, if_neg h1]; exact Fx.ret hl rfl (by omega)
theorem QnW {n k : Nat} {x : ND} {D : DK} {m : Msg} {P : LG → Prop} (hn : 17000000 ≤ n) (hk : k ≤ 70) (hl : SD n x.g D) (hx : NIn k x) (hm : MIn k x.n m) (hb : x.g.base ≤ x.commit) (hP0 : P x.g) (hP1 : P (x.fedP m).g) : Fx (n + 3000) P (YP (x, D) m) (x.fedP m) := by
 unfold ND.fedP at hP1
 unfold YP ND.fedP
 dsimp only
 by_cases h1 : m.term < x.g.term
 ·rw [if_pos h1, if_pos h1]; exact Fx.ret hl rfl (by omega)
 ·rw [if_neg h1] at hP1
  rw [if_neg h1, if_neg h1]
  by_cases h2 : x.role = 2
  ·rw [if_pos h2, if_pos h2]; exact Fx.ret hl rfl (by omega)
  ·rw [if_neg h2] at hP1
   rw [if_neg h2, if_neg h2]
   by_cases h3 : m.kind = 2
   ·rw [if_pos h3] at hP1
    rw [if_pos h3, if_pos h3]; exact Qn4 (x := x.follows m) hk hl (hx.follows m) hm hP0 hP1
   ·rw [if_neg h3, if_neg h3]; exact QmQ (x := x.follows m) hn hk hl (hx.follows m) hm hb hP0
theorem Ql2 {n : Nat} {x : ND} {D : DK} {m : Msg} {P : LG → Prop} (hl : SD n x.g D) : Fx n P (Yb (x, D) m) (x.heardP m) := by
 unfold ND.heardP Yb
 dsimp only
 by_cases h1 : ¬ x.role = 2 ∨ ¬ m.term = x.g.term
 ·rw [if_pos h1, if_pos h1]; exact .inl ⟨rfl, rfl, hl⟩
 ·rw [if_neg h1, if_neg h1]
  by_cases h2 : m.ok = false
  ·rw [if_pos h2, if_pos h2]; exact .inl ⟨rfl, rfl, hl⟩
  ·rw [if_neg h2, if_neg h2]
   split
   ·exact .inl ⟨rfl, rfl, by show SD n (ND.count _).g _; rw [ZI]; exact hl⟩
   ·exact .inl ⟨rfl, rfl, by show SD n (ND.count _).g _; rw [ZI]; exact hl⟩
theorem Qcx {n k : Nat} {x : ND} {D : DK} {m : Msg} {P : LG → Prop} (hn : 17000000 ≤ n) (hk : k ≤ 70) (hl : SD n x.g D) (hx : NIn k x) (hm : MIn k x.n m) (hb : x.g.base ≤ x.commit) (hP0 : P x.g) (hP1 : P (x.kindP m).g) : Fx (n + 3000) P (Yc (x, D) m) (x.kindP m) := by
 unfold ND.kindP at hP1
 unfold Yc ND.kindP
 by_cases h0 : m.kind = 0
 ·rw [if_pos h0] at hP1
  rw [if_pos h0, if_pos h0]; exact Qmu hk hl hx hm hP0 hP1
 ·rw [if_neg h0] at hP1
  rw [if_neg h0, if_neg h0]
  by_cases h1 : m.kind = 1
  ·rw [if_pos h1] at hP1
   rw [if_pos h1, if_pos h1]; exact Qla hk hl hx hm hP0 hP1
  ·rw [if_neg h1] at hP1
   rw [if_neg h1, if_neg h1]
   by_cases h2 : m.kind = 2 ∨ m.kind = 4
   ·rw [if_pos h2] at hP1
    rw [if_pos h2, if_pos h2]; exact QnW hn hk hl hx hm hb hP0 hP1
   ·rw [if_neg h2, if_neg h2]
    by_cases h3 : m.kind = 3
    ·rw [if_pos h3, if_pos h3]
     exact (Ql2 hl).mono (by omega)
    ·rw [if_neg h3, if_neg h3]; exact Fx.ret hl rfl (by omega)
theorem QiD {n k : Nat} {x : ND} {D : DK} {m : Msg} {P : LG → Prop} (hn : 17000000 ≤ n) (hk : k ≤ 60) (hl : SD n x.g D) (hx : NIn k x) (hm : MIm k m) (hb : x.g.base ≤ x.commit) (hP0 : P x.g) (hP1 : m.term > x.g.term → P { x.g with term := m.term, vote := -1 }) (hP2 : P (x.receiveP m).g) : Fx (n + 6000) P (Xk (x, D) m) (x.receiveP m) := by
 have hmt := hm.term
 unfold ND.receiveP at hP2
 unfold Xk ND.receiveP
 dsimp only
 by_cases h1 : ¬ m.to = x.id ∨ m.frm = x.id ∨ m.frm < 0 ∨ m.frm ≥ x.n
 ·rw [if_pos h1, if_pos h1]; exact Fx.ret hl rfl (by omega)
 ·rw [if_neg h1] at hP2
  rw [if_neg h1, if_neg h1]
  have hf : 0 ≤ m.frm ∧ m.frm < x.n := by omega
  by_cases h2 : m.term > x.g.term
  ·rw [if_pos h2] at hP2
   rw [if_pos h2, if_pos h2]
   refine Fx.bind (yi (by omega) hl hx (t := m.term) (v := -1) (by omega) (by omega) hP0 (hP1 h2)) (by omega) (fun D' h => ?_)
   exact Qcx (k := k + 1) (n := n + 3000) (x := ND.newTerm { x with g := { x.g with term := m.term, vote := -1 } }) (by omega) (by omega) h ((hx.set (t := m.term) (vt := -1) (by omega) (by omega)).newTerm) (hm.to hf (by omega)) hb (hP1 h2) hP2
  ·rw [if_neg h2] at hP2
   rw [if_neg h2, if_neg h2]
   exact (Qcx (m := m) hn (by omega) hl hx (hm.to hf (Nat.le_refl _)) hb hP0 hP2).mono (by omega)
def ND.q (x : ND) : ND := { x with out := [] }
def BB (T I : Int) (A : Nat) : Prop := T ≤ 2305843009213693952 ∧ I ≤ 100000000000000 ∧ A ≤ 80000
theorem jd {x : ND} (h : x.out = []) : x.q = x := by
 unfold ND.q; cases x; simp at h; subst h; rfl
theorem LIn.q {T I : Int} {A : Nat} {x : ND} (h : LIn T I A x) : LIn T I A x.q := h.sends []
theorem LIn.nin0 {T I : Int} {A : Nat} {x : ND} (h : LIn T I A x) (hB : BB T I A) (ho : x.out = []) : NIn 0 x := h.nin 0 hB.1 hB.2.1 hB.2.2 (by rw [ho]; exact Nat.zero_le _)
theorem NOk.q {R : Hp} {v : NV} {x : ND} (h : NOk R v x) : NOk R { v with css := [] } x.q := ⟨h.va, Els.nil, h.vm, h.vp, h.vo, h.map⟩
theorem QgV {n : Nat} {x : ND} {D : DK} (hd : x.down = false) (h : LD n x.g D) : ¬ Xm (x, D) = true := by
 obtain ⟨h1, _, _, _, h5, _⟩ := h
 unfold Xm; simp [hd, h1, h5]
theorem QkQ {n m : Nat} {x y : ND} {D : DK} {f : NS → Bool × NS} (hd : x.down = false) (hl : LD m x.g D) (ho : x.out = []) (h : Hs n (f (x, D)) y) : (Xn (x, D) f).1 = y.out ∧ (Xn (x, D) f).2.1 = y ∧ LD n y.g (Xn (x, D) f).2.2 := by
 obtain ⟨h1, h2, h3⟩ := h
 rw [jy]
 unfold qI
 rw [if_neg (QgV hd hl), show ({ x with out := [] } : ND) = x from jd ho, if_pos h1]
 exact ⟨by rw [h2], h2, h3⟩
theorem MLn.im {T I : Int} {m : Msg} (h : MLn T I m) (hT : T ≤ 2305843009213693952) (hI : I ≤ 100000000000000) (hc : m.commit < 18446744073709551616) : MIm 0 m :=
 ⟨by have := h.term; omega, by have := h.index; omega, by have := h.logTerm; omega, ⟨h.commit, hc⟩, ⟨h.es.1, fun e he => by have := h.es.2 e he; omega⟩, h.state⟩
abbrev YM := Int × Msg
def Qc7 (x : YM) (ve : Value) : List Value := .int .u64 x.1 :: QT x.2 ve
def oneE : Elt YM where
 P := fun R x cs => ∃ ve, cs = Qc7 x ve ∧ FrX entE R x.2.es ve
 sz := 11
 mono := fun hR ⟨ve, h, k⟩ => ⟨ve, h, k.mono hR⟩
 len := fun ⟨ve, h, k⟩ => by subst h; rfl
 one := fun ⟨ve, h, k⟩ u hu => by
  subst h
  rcases List.mem_cons.1 hu with rfl | hu
  ·rfl
  ·exact msgE.one ⟨ve, rfl, k⟩ u hu
theorem QjG {c : Cx} {R : Hp} {L M : List Asn} {tx e' e : TypeId} {sz m k b o j cap : Nat} {fz : Nat × Nat} {l news : List Value} (hk : c.P.underlying tx = some (.slice e')) (f : Find (qZ b l e fz) L M) (hl : news.length = m * sz) (hc : ∀ (jj : Nat) u, news[jj]? = some u → l[o + j * sz + jj]? = some u) (h1 : ∀ u ∈ news, u.oneCell' = true)
  (hcap : m = 0 ∨ cap ≠ j) : Qa6 c R L tx sz (.slice (Yw (some ⟨b, o, none⟩) j cap sz) m k) m news := by
 by_cases h : cap = j
 ·have h0 : m = 0 := hcap.resolve_right (by simp [h])
  subst h0
  have hn : news = [] := by simpa using hl
  subst hn
  intro w hs
  unfold Yw
  rw [if_pos h]
  exact Src.ofSlice w hk ⟨b, o, none⟩ 0 k [] (by simp) (fun j u hj => by simp at hj) (by simp)
 ·have e1 : Yw (some ⟨b, o, none⟩) j cap sz = some ⟨b, o + j * sz, none⟩ := by unfold Yw; rw [if_neg h]; simp [Yo]
  rw [e1]
  exact Qlr hk f hl hc h1
theorem Qof {pre xs post : List Value} {a b : Nat} (hab : a ≤ b) (hb : b ≤ xs.length) : (pre ++ (xs ++ post)).take (pre.length + a) ++ xs.drop b ++ (pre ++ (xs ++ post)).drop (pre.length + a + (xs.length - b)) = pre ++ ((xs.take a ++ xs.drop b) ++ (xs.drop (a + (xs.length - b)) ++ post)) := by
 have e1 : (pre ++ (xs ++ post)).take (pre.length + a) = pre ++ xs.take a := by
  rw [List.take_append, List.take_of_length_le (by omega), Nat.add_sub_cancel_left, List.take_append_of_le_length (by omega)]
 have e2 : (pre ++ (xs ++ post)).drop (pre.length + a + (xs.length - b)) = xs.drop (a + (xs.length - b)) ++ post := by
  rw [Nat.add_assoc, ← List.drop_drop, List.drop_left, List.drop_append_of_le_length (by omega)]
 rw [e1, e2]
 simp
theorem Qoe {pre X Y Z post : List Value} (h : Z.length = Y.length) : (pre ++ (X ++ (Y ++ post))).take (pre.length + X.length) ++ Z ++ (pre ++ (X ++ (Y ++ post))).drop (pre.length + X.length + Z.length) = pre ++ (X ++ (Z ++ post)) := by
 have e : pre ++ (X ++ (Y ++ post)) = (pre ++ X) ++ (Y ++ post) := by simp
 have hl : pre.length + X.length = (pre ++ X).length := by simp
 rw [e, hl, List.take_left, ← List.drop_drop, List.drop_left, h, List.drop_left]
 simp
def QbU : List Value := [.int .u64 0, .int .i64 0, .int .i64 0, .int .i64 0, .int .u64 0, .int .u64 0, .int .u64 0, .int .u64 0, .bool false, .slice none 0 0, .string (str [])]
theorem Qn1 {R : Hp} (v : Value) (n : Nat) (xs : List Value) (i : Nat) (hi : i < n) (h1 : ∀ u ∈ xs, u.oneCell' = true) :
  Tri prog 66 [v, .int .i64 (i : Int), .int .i64 ((i + 1 : Nat) : Int)] R [slc 138 11 v n xs]
   (fun r R' L' => R = R' ∧ r.oneCell' = true ∧ L' = [slc 138 11 r (n - 1) (xs.take (i * 11) ++ xs.drop ((i + 1) * 11))]) := by
 refine Qn func66 rfl ntmps66 rfl (fun σ F Q hret hend hpan => ?_)
 try simp only [cB]
 refine Qmp (e := 138) (sz := 11) (n := n) (v := v) (xs := xs) fd_ (by omega) (fun g cap fz pre post hv hxl hf hnc hcm hcs => ?_)
 subst hv
 have hcm2 : cap ≤ 9223372036854775807 := by simp only [maxLen] at hcm; omega
 have hxd : (xs.drop ((i + 1) * 11)).length = (n - (i + 1)) * 11 := by rw [List.length_drop, hxl]; omega
 refine Qd fun K1 hK1 => Qc (Ps (Qe (hK1 _ _ _ (Qd fun K2 hK2 => Qc ?_))))
 refine Pm (Pm (Pm (Pm ?_)))
 refine Pa (QR underlying113 rfl) ?_
 refine Pa ((QfP (l := i) (h := i + 1) (m := n) underlying113 sizeOf138 rfl rfl rfl rfl (by omega))) ?_
 refine Qe (hK2 _ _ _ (Qd fun K3 hK3 => Qd fun K4 hK4 => Qc (Pm (Pm ?_))))
 refine Pa (QB rfl rfl) (Qe (hK4 _ _ _ ?_))
 refine Qm rfl (fun hc16 => ?_) (fun hc16 => ?_)
 ·exfalso; simp at hc16; omega
 try simp only [dx] at hc16
 refine Qj (hK3 _ _ _ (Qd fun K6 hK6 => Qc (Pm ?_)))
 refine Pa (QR underlying113 rfl) (Ps (Qe (hK6 _ _ _ (Qd fun K7 hK7 => ?_))))
 refine Xd (L := [qZ g (pre ++ (xs ++ post)) 138 fz]) [0, 1, 2, 3, 4, 5] [] [6, 7] _ sb_ (by kernel_rfl) (by kernel_rfl) (by kernel_rfl) rfl ?_
 refine Wa rfl (fun R1 hR1 G => (Qg rfl)) ?_
 refine Wa rfl (fun R1 hR1 G => (Qg rfl)) ?_
 refine Wa rfl (fun R1 hR1 G => (Yld.to (Zk (l := 0) (h := i) underlying113 sizeOf138 rfl rfl ⟨_, rfl⟩ (by omega)) (show _ = Value.slice (some ⟨g, pre.length, none⟩) i cap by simp [Yw]; intro h; simp [Yo]))) ?_
 refine Wa rfl (fun R1 hR1 G => (Qg rfl)) ?_
 refine Wa rfl (fun R1 hR1 G => (Qg rfl)) ?_
 refine Wa rfl (fun R1 hR1 G => (Zk (l := i + 1) (h := n) underlying113 sizeOf138 rfl ⟨_, rfl⟩ rfl (by omega))) ?_
 refine Xc ?_
 refine Xe ?_
 try simp only [cC]
 refine Qc5 (ys := pre ++ ((xs.take (i * 11) ++ xs.drop ((i + 1) * 11)) ++ (xs.drop (i * 11 + (xs.length - (i + 1) * 11)) ++ post))) (sz := 11) (by_ := 112) (m := n - (i + 1)) (news := xs.drop ((i + 1) * 11)) ⟨underlying113, _, _, rfl, rfl, rfl, rfl, rfl⟩ (wn0 rfl) rfl rfl rfl fd_ hf (QjG (l := pre ++ (xs ++ post)) underlying113 fd_ hxd (fun jj u hj => by rw [List.getElem?_drop] at hj; rw [Nat.add_assoc, List.getElem?_append_right (by omega), Nat.add_sub_cancel_left, List.getElem?_append_left (List.getElem?_eq_some_iff.1 hj).1]; exact hj) (fun u hu => h1 u (List.mem_of_mem_drop hu)) (by omega)) (by omega) (by simp [hxl]; omega) (by rw [show (n - (i + 1)) * 11 = xs.length - (i + 1) * 11 by omega]; exact Qof (xs := xs) (by omega) (by omega)) ?_
 refine Xg 26 rfl (v' := .slice (some ⟨g, pre.length, none⟩) (n - 1) cap) (by congr 1; omega) ?_
 refine Ps (Qe (hK7 _ _ _ ?_))
 refine Ql (eL 0 rfl (eL 7 rfl eN)) ?_
 refine Qd fun K8 hK8 => Qc (Pm (Pm ?_))
 refine Pa (QR underlying113 rfl) (Pm ?_)
 refine Pa ((Yld.to (Zk (l := n - 1) (h := n) underlying113 sizeOf138 rfl ⟨_, rfl⟩ ⟨_, rfl⟩ (by omega)) (show _ = Value.slice (some ⟨g, pre.length + (n - 1) * 11, none⟩) 1 (cap - (n - 1)) by unfold Yw; rw [if_neg (by omega)]; simp [Yo]; omega))) ?_
 refine QjO (ys := pre ++ ((xs.take (i * 11) ++ xs.drop ((i + 1) * 11)) ++ (QbU ++ post))) (z := _) (news := QbU) underlying113 zeroValue138 (by kernel_rfl) (by decide) (by decide) (wn0 rfl) rfl fd_ (by intro o ho; exact hf o (by simp at ho ⊢; omega)) (by simp [hxl, QbU]; omega) (by rw [show pre.length + (n - 1) * 11 = pre.length + (xs.take (i * 11) ++ xs.drop ((i + 1) * 11)).length by simp [hxl]; omega]; exact Qoe (by simp [hxl, QbU]; omega)) ?_
 refine Qe (hK8 _ _ _ (Qd fun K9 hK9 => Qc ?_))
 refine Xu (A := qZ g (pre ++ ((xs.take (i * 11) ++ xs.drop ((i + 1) * 11)) ++ (QbU ++ post))) 138 fz) (B := slc 138 11 (.slice (some ⟨g, pre.length, none⟩) (n - 1) cap) (n - 1) (xs.take (i * 11) ++ xs.drop ((i + 1) * 11))) fd_ (Qir (by simp [hxl]; omega) (by intro o ho; exact hf o (by simp [hxl, QbU] at ho ⊢; omega)) (by omega) hcm (by simp [hxl, QbU] at hcs ⊢; omega)) ?_
 refine Pm (Ps (Qe (hK9 _ _ _ (Qi (hret _ _ _ ?_)))))
 refine Ea results66 (.cons (Qh rfl) .nil) [slc 138 11 (.slice (some ⟨g, pre.length, none⟩) (n - 1) cap) (n - 1) (xs.take (i * 11) ++ xs.drop ((i + 1) * 11))] le_ ?_
 exact ⟨rfl, rfl, rfl⟩
theorem QhV (css : List (List Value)) (cy : List Value) : css.flatten ++ cy = (css ++ [cy]).flatten := by simp
theorem QkD {R : Hp} (v : Value) (l : List Ent) (hl : FrX entE R l v) (hn : l.length ≤ 1000000) : Tri prog 101 [v] R []
  (fun r R' L' => R = R' ∧ r.oneCell' = true ∧ ∃ css, Els entE R l css ∧ L' = [slc 93 2 r l.length css.flatten]) := by
 obtain ⟨css, he, hfr⟩ := hl
 obtain ⟨q, cap, rfl, h1, h2, h3⟩ := id hfr
 have hq0 : q.isNone = true → l = [] := fun h => by
  rcases h3 with h0 | ⟨b, off, rfl, _⟩
  ·exact List.eq_nil_of_length_eq_zero h0
  ·cases h
 refine Qn func101 rfl ntmps101 rfl (fun σ F Q hret hend hpan => ?_)
 try simp only [cB]
 refine Qd fun K1 hK1 => Qc (Ps (Qe (hK1 _ _ _ (Qd fun K2 hK2 => Qd fun K3 hK3 => Qc ?_))))
 refine Pm ?_
 refine Pa (Qa7 underlying76 rfl rfl) (Qe (hK3 _ _ _ ?_))
 refine Qm rfl (fun hc4 => ?_) (fun hc4 => ?_)
 obtain rfl := hq0 hc4
 refine QfF (A := slc 93 2 (.slice none 0 0) 0 []) (Yr _ _) ?_
 have hcss : css = [] := List.eq_nil_of_length_eq_zero he.1
 subst hcss
 refine Qd fun K5 hK5 => Qc (Ps (Qe (hK5 _ _ _ (Qi (hret _ _ _ ?_)))))
 refine Ea results101 (.cons (Qh rfl) .nil) [slc 93 2 (.slice none 0 0) 0 []] le_ ?_
 exact ⟨rfl, rfl, [], he, rfl⟩
 try simp only [dx] at hc4
 refine Qj (hK2 _ _ _ (Qd fun K6 hK6 => Qc ?_))
 refine Qz (sz := 2) (wn0 rfl) rfl underlying76 sizeOf93 zeroValue93 rfl rfl rfl (by decide) (by decide) (fun b5 => ?_)
 refine Pm ?_
 refine XF (sz := 2) (by_ := 24) ⟨underlying76, _, _, rfl, rfl, rfl, rfl, rfl⟩ (wn0 rfl) rfl rfl rfl fd_ (FrX.src (T := entE) underlying76 he hfr) rfl om_ (by simp only [maxLen]; omega) (fun v7 ho7 hh7 => ?_)
 rw [Nat.zero_add, List.nil_append]
 refine Ps (Qe (hK6 _ _ _ (Qi (hret _ _ _ ?_))))
 refine Ea results101 (.cons (Qh rfl) .nil) [slc 93 2 v7 l.length css.flatten] le_ ?_
 exact ⟨rfl, by assumption, css, he, rfl⟩
theorem QkV {R : Hp} (m : Msg) (ve : Value) (hve : FrX entE R m.es ve) (hn : m.es.length ≤ 1000000) : Tri prog 89 [.agg ⟨QT m ve⟩] R []
  (fun r R' L' => L' = [] ∧ ∃ ve', r = .agg ⟨QT m ve'⟩ ∧ FrX entE R' m.es ve') := by
 unfold QT
 have hveo := hve.one
 refine Qn func89 rfl ntmps89 rfl (fun σ F Q hret hend hpan => ?_)
 try simp only [cB]
 refine Qd fun K1 hK1 => Qc ?_
 refine Xa (wn0 rfl) rfl rfl rfl (fun b1 => ?_)
 refine QA (wn0 rfl) rfl zeroValue117 rfl (fun b2 => ?_)
 refine Qe (hK1 _ _ _ (Qd fun K2 hK2 => Qc ?_))
 refine Pa (Ga underlying117 sizeOf76) ?_
 refine Pa (La o76) ?_
 refine Ra call101 (QkD ve m.es hve hn) ?_
 rintro r R1 L' hR1 ⟨rfl, hro, css, he, rfl⟩
 refine Yd (e := 93) (sz := 2) (n := m.es.length) (v := r) (xs := css.flatten) fd_ (fun R2 hR2 hfr hxl => ?_)
 have hfx := FrozenS.frx hfr (he.mono hR2)
 try simp only [cB]
 refine Pa (Ga underlying117 sizeOf76) ?_
 refine Sa o76 ?_
 refine Qe (hK2 _ _ _ (Qd fun K3 hK3 => Qc ?_))
 refine Pa (Lb XO) ?_
 refine Qu XO rfl (wn0 rfl) rfl rfl (msgE.one (R := R2) (x := m) ⟨r, rfl, hfx⟩) fd_ (by exact Nat.le_refl 10) rfl ?_
 refine Qe (hK3 _ _ _ (Qi (hret _ _ _ ?_)))
 refine Ea results89 (.cons (QN XO rfl fd_ rfl rfl) .nil) [] le_ ?_
 exact ⟨rfl, r, rfl, hfx⟩
def XN (k : Int) : List Msg → List YM
 | [] => []
 | m :: l => (k + 1, m) :: XN (k + 1) l
theorem Qac : ∀ (l : List Msg) (k : Int), (XN k l).length = l.length
 | [], _ => rfl
 | m :: l, k => by rw [XN, List.length_cons, Qac l, List.length_cons]
theorem QaU : ∀ (l : List Msg) (k : Int) (i : Nat) (m : Msg), l[i]? = some m → XN k (l.take (i + 1)) = XN k (l.take i) ++ [(k + ((i + 1 : Nat) : Int), m)]
 | [], _, i, m, h => by simp at h
 | x :: l, k, 0, m, h => by simp at h; subst h; simp [XN]
 | x :: l, k, i + 1, m, h => by
  rw [List.take_succ_cons, List.take_succ_cons, XN, XN, QaU l (k + 1) i m (by simpa using h)]
  simp only [List.cons_append, List.cons.injEq, Prod.mk.injEq, and_true, true_and, List.append_cancel_left_eq]
  push_cast
  omega
@[reducible] def Yf (b : Nat) (v : Value) (last : Int) : Asn := blk b [v, .int .u64 last] 115
@[reducible] def XY (v : Value) (st : List YM) (css : List (List Value)) : Asn := slc 138 11 v st.length css.flatten
theorem Qj8 {R : Hp} : Tri prog 46 [] R [] (fun r R' L' => R = R' ∧ ∃ b, r = .pointer (some ⟨b, 0, none⟩) ∧ L' = [Yf b (.slice none 0 0) 0, XY (.slice none 0 0) [] []]) := by
 refine Qn func46 rfl ntmps46 rfl (fun σ F Q hret hend hpan => ?_)
 try simp only [cB]
 refine Ql eN ?_
 refine Qd fun K1 hK1 => Qc (Ps (Qe (hK1 _ _ _ (Qd fun K2 hK2 => Qc ?_))))
 refine YR (A := XY (.slice none 0 0) [] []) (Yr _ _) ?_
 refine Pa (QV (cells := [_, _]) [(0, 1), (1, 1)] underlying115 zeroValue115 (fun _ => rfl) rfl rfl) ?_
 refine Xa (wn0 rfl) rfl rfl rfl (fun b => ?_)
 refine Ps (Qe (hK2 _ _ _ (Qi (hret _ _ _ ?_))))
 refine Ea results46 (.cons (Qh rfl) .nil) [Yf b (.slice none 0 0) 0, XY (.slice none 0 0) [] []] le_ ?_
 exact ⟨rfl, b, rfl, rfl⟩
def qz (m : Msg) : Prop := m.es.length ≤ 1000000
theorem Qe4 {R : Hp} (b : Nat) (v : Value) (last : Int) (st : List YM) (css : List (List Value)) (hk : Els oneE R st css) (vl : Value) (ms : List Msg) (hms : FrX msgE R ms vl) (hsm : ∀ m ∈ ms, qz m)
  (hl : 0 ≤ last ∧ last + ms.length ≤ 1000000) (hst : st.length + ms.length ≤ 1000000) :
  Tri prog 65 [.pointer (some ⟨b, 0, none⟩), vl] R [Yf b v last, XY v st css]
   (fun r R' L' => ∃ v' css', Els oneE R' (st ++ XN last ms) css' ∧ L' = [Yf b v' (last + ms.length), XY v' (st ++ XN last ms) css']) := by
 obtain ⟨q, cap, rfl, hcap, hcm⟩ := hms.shape
 refine Qn func65 rfl ntmps65 rfl (fun σ F Q hret hend hpan => ?_)
 try simp only [cB]
 refine qT (A := XY v st css) fd_ qo (fun hvo => ?_)
 refine Qd fun K1 hK1 => Qd fun K2 hK2 => Qc (Pm ?_)
 refine Pa (XV underlying66 rfl rfl) (Qe (hK2 _ _ _ (Qs rfl (Qj (hK1 _ _ _ (Qd fun K3 hK3 => Qc ?_))))))
 refine Pm ?_
 refine Pa (QR underlying98 rfl) (Pm (Qe (hK3 _ _ _ (Qp ?_))))
 rw [show last = last + ((0 : Nat) : Int) by simp, show st = st ++ XN last (ms.take 0) by simp [XN]]
 refine Ql (E' := (fun (x : Nat × Value × List (List Value) × Hp) => [(0, .pointer (some ⟨b, 0, none⟩)), (8, .slice q ms.length cap), (9, .int .i64 (ms.length : Int)), (10, .int .i64 (x.1 : Int))]) (0, v, css, R)) (eC rfl (eC rfl (eC rfl (eC rfl eN)))) ?_
 refine Xi (M := (fun (x : Nat × Value × List (List Value) × Hp) => Yf b x.2.1 (last + x.1) :: XY x.2.1 (st ++ XN last (ms.take x.1)) x.2.2.1 :: F) (0, v, css, R)) sb_ ?_
 refine QY (fun (x : Nat × Value × List (List Value) × Hp) => [(0, .pointer (some ⟨b, 0, none⟩)), (8, .slice q ms.length cap), (9, .int .i64 (ms.length : Int)), (10, .int .i64 (x.1 : Int))]) (fun (x : Nat × Value × List (List Value) × Hp) => x.2.2.2) (fun (x : Nat × Value × List (List Value) × Hp) => Yf b x.2.1 (last + x.1) :: XY x.2.1 (st ++ XN last (ms.take x.1)) x.2.2.1 :: F) (fun (x : Nat × Value × List (List Value) × Hp) => x.1 ≤ ms.length ∧ R.le x.2.2.2 ∧ Els oneE x.2.2.2 (st ++ XN last (ms.take x.1)) x.2.2.1 ∧ x.2.1.oneCell' = true) (fun (x : Nat × Value × List (List Value) × Hp) => ms.length - x.1) (0, v, css, R) (⟨by simp, Hp.le_refl R, by simpa [XN] using hk, hvo⟩) ?_
 rintro ⟨i, v1, css1, R1⟩ ⟨hi, hR1, hk1, hvo1⟩
 try dsimp only
 dsimp only at hi hR1 hk1 hvo1
 refine Qd fun K4 hK4 => Qc ?_
 refine Pa (QO rfl rfl) (Qe (hK4 _ _ _ (Qd fun K5 hK5 => ?_)))
 refine Qm rfl (fun hc11 => ?_) (fun hc11 => ?_)
 try simp only [dx] at hc11
 refine Qj (hK5 _ _ _ (Qd fun K7 hK7 => Qp (Qd fun K8 hK8 => Qc ?_)))
 obtain ⟨m, hm⟩ : ∃ m, ms[i]? = some m := ⟨ms[i]'(by omega), by simp⟩
 obtain ⟨bm, off, cap', cs, he, ⟨ve, rfl, hve⟩, hcl, hcell⟩ := (hms.mono hR1).at hm
 obtain ⟨rfl, rfl⟩ : q = some ⟨bm, off, none⟩ ∧ cap = cap' := by cases he; exact ⟨rfl, rfl⟩
 unfold QT at hcell
 have hveo := hve.one
 have hmm := hsm m (List.mem_of_getElem? hm)
 have hlen : (st ++ XN last (ms.take i)).length = st.length + i := by rw [List.length_append, Qac, List.length_take]; omega
 refine Pa (Qy underlying98 sizeOf117 rfl rfl om_) ?_
 refine Pa ((XT XO (vs := QT m ve) rfl rfl (fun j u hj => hcell j u hj))) ?_
 refine QA (wn0 rfl) rfl zeroValue117 rfl (fun b5 => ?_)
 refine Qu XO rfl (wn0 rfl) rfl rfl (msgE.one (R := R1) (x := m) ⟨ve, rfl, hve⟩) fd_ (by exact Nat.le_refl 10) rfl ?_
 refine Qe (hK8 _ _ _ (Qd fun K9 hK9 => Qc (Pm ?_)))
 refine Pa (Qf rfl) ?_
 refine Pa (Ga underlying115 sizeOf36) ?_
 refine Pa (La o36) ?_
 refine Pa (Zq rfl rfl om_) ?_
 refine Xg 18 rfl (v' := .int .u64 (last + ((i + 1 : Nat) : Int))) (by congr 1; push_cast; omega) ?_
 refine Pa (Qf rfl) ?_
 refine Pa (Ga underlying115 sizeOf36) ?_
 refine Sa o36 ?_
 refine Qe (hK9 _ _ _ ?_)
 refine Xd (L := [Yf b v1 (last + ((i + 1 : Nat) : Int)), blk b5 (QT m ve) 117]) [0, 1, 2, 3, 4, 5, 6, 7, 8, 9] [10, 11, 12, 13] [14, 15, 16] _ sb_ (by kernel_rfl) (by kernel_rfl) (by kernel_rfl) rfl ?_
 refine Wa rfl (fun R1 hR1 G => (Qg rfl)) ?_
 refine Wa rfl (fun R1 hR1 G => (Qg rfl)) ?_
 refine Wa rfl (fun R1 hR1 G => (Qf rfl)) ?_
 refine Wa rfl (fun R1 hR1 G => (Ga underlying115 sizeOf113)) ?_
 refine Wa rfl (fun R1 hR1 G => (La QbR)) ?_
 refine Wa rfl (fun R1 hR1 G => (Qg rfl)) ?_
 refine Wa rfl (fun R1 hR1 G => (Qf rfl)) ?_
 refine Wa rfl (fun R1 hR1 G => (Ga underlying115 sizeOf36)) ?_
 refine Wa rfl (fun R1 hR1 G => (La o36)) ?_
 refine Wa rfl (fun R1 hR1 G => (Lb XO)) ?_
 refine Xc ?_
 refine QH rfl ?_
 try simp only [cC]
 refine Ra call89 (QkV m ve hve hmm) ?_
 rintro r R2 L' hR2 ⟨rfl, ve', rfl, hve'⟩
 have hkn : Els oneE R2 (st ++ XN last (ms.take (i + 1))) (css1 ++ [Qc7 (last + ((i + 1 : Nat) : Int), m) ve']) := by rw [QaU ms last i m hm, ← List.append_assoc]; exact (hk1.mono hR2).snoc ⟨ve', rfl, hve'⟩
 try simp only [cB]
 refine QI le_ sb_ ?_
 refine QH rfl ?_
 try simp only [cC]
 refine Pa (QV (cells := [_, _, _, _, _, _, _, _, _, _, _]) [(0, 1), (1, 10)] underlying138 zeroValue138 (fun _ => rfl) rfl rfl) ?_
 refine QI le_ sb_ ?_
 refine QH rfl ?_
 try simp only [cC]
 refine Qz (sz := 11) (wn0 rfl) rfl underlying113 sizeOf138 zeroValue138 rfl rfl rfl (by decide) (by decide) (fun bz => ?_)
 refine QI le_ sb_ ?_
 refine QH rfl ?_
 try simp only [cC]
 refine XF (sz := 11) (by_ := 112) ⟨underlying113, _, _, rfl, rfl, rfl, rfl, rfl⟩ (wn0 rfl) rfl rfl rfl fd_ (YT (xs := Qc7 (last + ((i + 1 : Nat) : Int), m) ve') underlying113 fd_ (oneE.one (R := R2) (x := (last + ((i + 1 : Nat) : Int), m)) ⟨ve', rfl, hve'⟩)) rfl om_ (by simp only [maxLen]; omega) (fun v34 ho34 hh34 => ?_)
 rw [QhV]
 rw [show (st ++ XN last (ms.take i)).length + 1 = (st ++ XN last (ms.take (i + 1))).length by rw [QaU ms last i m hm]; simp; omega]
 refine QI le_ sb_ ?_
 refine Xe ?_
 try simp only [cC]
 refine Pa (Qf rfl) ?_
 refine Pa (Ga underlying115 sizeOf113) ?_
 refine Sa QbR ?_
 refine Qe (hK7 _ _ _ ?_)
 refine Ql (eL 0 rfl (eL 8 rfl (eL 9 rfl (eL 10 rfl eN)))) ?_
 refine Qc ?_
 refine Pa (Qt rfl rfl om_) (Pm (Qe ?_))
 refine Xl (q' := QS _ _ _ _ _ _ _) rfl ?_
 refine QC ((i + 1, v34, css1 ++ [Qc7 (last + ((i + 1 : Nat) : Int), m) ve'], R2)) (⟨by dsimp only; omega, Hp.le_trans hR1 hR2, hkn, by assumption⟩) (by dsimp only; omega) (eC rfl (eC rfl (eC rfl (eC rfl eN)))) rfl sb_
 try simp only [dx] at hc11
 refine QL (hend _ _ _ ?_)
 apply QD results65 .nil _ [Yf b v1 (last + i), XY v1 (st ++ XN last (ms.take i)) css1] le_ rfl
 case hp =>
  have e : i = ms.length := by (try simp at hc11); omega
  subst e; rw [List.take_of_length_le (Nat.le_refl _)] at hk1 ⊢; exact ⟨v1, css1, hk1, rfl⟩
 case hS => exact sb_
theorem zw {R : Hp} (b : Nat) (v : Value) (last : Int) (st : List YM) (css : List (List Value)) :
  QTri prog 29 [.pointer (some ⟨b, 0, none⟩)] R [Yf b v last, XY v st css] (.int .i64 (st.length : Int)) := by
 refine Tri.q ?_
 refine Qn func29 rfl ntmps29 rfl (fun σ F Q hret hend hpan => ?_)
 try simp only [cB]
 refine Qd fun K1 hK1 => Qc (Ps (Qe (hK1 _ _ _ (Qd fun K2 hK2 => Qd fun K3 hK3 => Qc ?_))))
 refine Pm ?_
 refine Pa (XV underlying66 rfl rfl) (Qe (hK3 _ _ _ (Qs rfl (Qj (hK2 _ _ _ (Qd fun K4 hK4 => Qc ?_))))))
 refine Pm ?_
 refine Pa (Qf rfl) ?_
 refine Pa (Ga underlying115 sizeOf113) ?_
 refine Pa (La QbR) ?_
 refine Pa (YE underlying113 rfl fd_) (Ps (Qe (hK4 _ _ _ (Qi (hret _ _ _ ?_)))))
 refine Ea results29 (.cons (Qh rfl) .nil) [Yf b v last, XY v st css] le_ ?_
 exact ⟨rfl, rfl, rfl⟩
def XR (st : List YM) (i : Int) : Bool := decide (0 ≤ i ∧ i < st.length)
def atM (st : List YM) (i : Int) : YM := if XR st i then st.getD i.toNat (0, Msg.zero) else (0, Msg.zero)
def Zn (st : List YM) (i : Int) : List YM := if XR st i then st.eraseIdx i.toNat else st
theorem Qap {st : List YM} {i : Nat} {x : YM} (h : st[i]? = some x) : atM st i = x ∧ XR st i = true := by
 have hi := (List.getElem?_eq_some_iff.1 h).1
 have hb : XR st i = true := by unfold XR; simp; omega
 refine ⟨?_, hb⟩
 unfold atM
 rw [if_pos hb, List.getD_eq_getElem?_getD, Int.toNat_natCast, h]; rfl
theorem qn {st : List YM} {i : Int} (h : XR st i = false) : atM st i = (0, Msg.zero) ∧ Zn st i = st := by
 unfold atM Zn; rw [h]; exact ⟨rfl, rfl⟩
theorem QnH {xs : List Value} {i : Nat} {x : YM} {ve : Value} (h : (xs.drop (i * 11)).take 11 = Qc7 x ve) : (xs.drop ((i : Int).toNat * 11 + 1)).take 10 = QT x.2 ve := by
 have : ((xs.drop (i * 11)).take 11).drop 1 = QT x.2 ve := by rw [h]; rfl
 rw [Int.toNat_natCast, ← this, List.drop_take, List.drop_drop]
theorem QnI {xs : List Value} {i : Nat} {x : YM} {ve : Value} (h : (xs.drop (i * 11)).take 11 = Qc7 x ve) : nth xs ((i : Int).toNat * 11 + 0) = some (.int .u64 x.1) := by
 have : ((xs.drop (i * 11)).take 11)[0]? = some (.int .u64 x.1) := by rw [h]; rfl
 rw [Int.toNat_natCast, ZP]
 rw [List.getElem?_take, if_pos (by omega), List.getElem?_drop] at this
 exact this
def QaG (st : List YM) : Prop := ∀ x ∈ st, qz x.2
theorem Qgz {R : Hp} (b : Nat) (v : Value) (last : Int) (st : List YM) (css : List (List Value)) (hk : Els oneE R st css) (hsm : QaG st) (i : Int) :
  Tri prog 67 [.pointer (some ⟨b, 0, none⟩), .int .i64 i] R [Yf b v last, XY v st css]
   (fun r R' L' => L' = [Yf b v last, XY v st css] ∧ ∃ ve, r = .tuple #[.agg ⟨QT (atM st i).2 ve⟩, .int .u64 (atM st i).1, .bool (XR st i)] ∧ FrX entE R' (atM st i).2.es ve) := by
 refine Qn func67 rfl ntmps67 rfl (fun σ F Q hret hend hpan => ?_)
 try simp only [cB]
 refine Qd fun K1 hK1 => Qc ?_
 refine QA (wn0 rfl) rfl zeroValue117 rfl (fun bo => ?_)
 refine Ps (Ps (Qe (hK1 _ _ _ (Qd fun K2 hK2 => Qd fun K3 hK3 => Qc ?_))))
 refine Pm ?_
 refine Pa (QO rfl rfl) (Pm ?_)
 refine QE 9 rfl (fun hg9 => ?_) (fun hg9 => ?_)
 try simp only [dx] at hg9
 refine Pk (Pk (Pk (Pk ?_)))
 refine Pa (Qr rfl rfl) (Qe (hK3 _ _ _ (Qv rfl (Qd fun K4 hK4 => Qc ?_))))
 refine Pa (QV (cells := [_, _, _, _, _, _, _, _, _, _]) [(0, 1), (1, 1), (2, 1), (3, 1), (4, 1), (5, 1), (6, 1), (7, 1), (8, 1), (9, 1)] underlying117 zeroValue117 (fun _ => rfl) rfl rfl) ?_
 refine Qu XO rfl (wn0 rfl) rfl rfl (by (first | (simp [Value.oneCell']; done) | (intro u hu; simp only [List.mem_cons, List.not_mem_nil, or_false] at hu; rcases hu with rfl | rfl | rfl | rfl <;> first | rfl | assumption))) fd_ (by (simp)) rfl ?_
 refine Ps (Ps (Qe (hK4 _ _ _ (Qi (hret _ _ _ ?_)))))
 refine Ea results67 (.cons (QN XO rfl fd_ rfl rfl) (.cons (Qh rfl) (.cons (Qh rfl) .nil))) [Yf b v last, XY v st css] le_ ?_
 have hb : XR st i = false := by unfold XR; simp; omega
 rw [(qn hb).1, hb]; exact ⟨rfl, _, rfl, FrX.nil⟩
 try simp only [dx] at hg9
 refine Pb (Qg rfl) ?_
 refine Pb (Qg rfl) ?_
 refine Pb (Ca call29 (zw b v last st css)) ?_
 refine Pb (YX rfl rfl) ?_
 refine Pa (Qo rfl rfl) (Qe (hK3 _ _ _ ?_))
 refine Ql (eL 0 rfl (eL 1 rfl (eL 4 rfl (eL 14 rfl eN)))) ?_
 refine Qm rfl (fun hc14 => ?_) (fun hc14 => ?_)
 try simp only [dx] at hc14
 refine Qd fun K6 hK6 => Qc ?_
 refine Pa (QV (cells := [_, _, _, _, _, _, _, _, _, _]) [(0, 1), (1, 1), (2, 1), (3, 1), (4, 1), (5, 1), (6, 1), (7, 1), (8, 1), (9, 1)] underlying117 zeroValue117 (fun _ => rfl) rfl rfl) ?_
 refine Qu XO rfl (wn0 rfl) rfl rfl (by (first | (simp [Value.oneCell']; done) | (intro u hu; simp only [List.mem_cons, List.not_mem_nil, or_false] at hu; rcases hu with rfl | rfl | rfl | rfl <;> first | rfl | assumption))) fd_ (by (simp)) rfl ?_
 refine Ps (Ps (Qe (hK6 _ _ _ (Qi (hret _ _ _ ?_)))))
 refine Ea results67 (.cons (QN XO rfl fd_ rfl rfl) (.cons (Qh rfl) (.cons (Qh rfl) .nil))) [Yf b v last, XY v st css] le_ ?_
 have hb : XR st i = false := by unfold XR; simp; omega
 rw [(qn hb).1, hb]; exact ⟨rfl, _, rfl, FrX.nil⟩
 try simp only [dx] at hc14
 refine Qj (hK2 _ _ _ (Qd fun K7 hK7 => ?_))
 obtain ⟨i, rfl⟩ := Int.eq_ofNat_of_zero_le (show 0 ≤ i by (try simp at hg9 hc14); omega)
 have hi : i < st.length := by (try simp at hc14); omega
 obtain ⟨⟨n, m⟩, hx⟩ : ∃ x, st[i]? = some x := ⟨st[i], by simp⟩
 obtain ⟨cs, hcs, ⟨ve, rfl, hve⟩, hpart⟩ := hk.get hx
 obtain ⟨ea, eb⟩ := Qap hx
 have hmm : qz m := hsm (n, m) (List.mem_of_getElem? hx)
 refine Xd (L := [Yf b v last, XY v st css]) [0, 1, 2, 3, 4, 5, 6, 7, 9, 10, 11, 12, 13, 14, 15, 16] [8, 17] [18, 19] _ sb_ (by kernel_rfl) (by kernel_rfl) (by kernel_rfl) rfl ?_
 refine Wa rfl (fun R1 hR1 G => (Qg rfl)) ?_
 refine Wa rfl (fun R1 hR1 G => (Qf rfl)) ?_
 refine Wa rfl (fun R1 hR1 G => (Ga underlying115 sizeOf113)) ?_
 refine Wa rfl (fun R1 hR1 G => (La QbR)) ?_
 refine Wa rfl (fun R1 hR1 G => (Qg rfl)) ?_
 refine Wa rfl (fun R1 hR1 G => (XA (sz := 11) (n := st.length) underlying113 sizeOf138 rfl rfl fd_ (by omega))) ?_
 refine Wa rfl (fun R1 hR1 G => (Zw (k := 1) underlying138 rfl (m := 10) (by decide) sizeOf117 rfl fd_ (by omega))) ?_
 refine Wa rfl (fun R1 hR1 G => (Qbu (sz := 11) (n := st.length) (vs := QT m ve) XO rfl fd_ (QnH hpart) rfl (by omega))) ?_
 refine Wa rfl (fun R1 hR1 G => (Qg rfl)) ?_
 refine Wa rfl (fun R1 hR1 G => (Qf rfl)) ?_
 refine Wa rfl (fun R1 hR1 G => (Ga underlying115 sizeOf113)) ?_
 refine Wa rfl (fun R1 hR1 G => (La QbR)) ?_
 refine Wa rfl (fun R1 hR1 G => (Qg rfl)) ?_
 refine Wa rfl (fun R1 hR1 G => (XA (sz := 11) (n := st.length) underlying113 sizeOf138 rfl rfl fd_ (by omega))) ?_
 refine Wa rfl (fun R1 hR1 G => (Zw (k := 0) underlying138 rfl (m := 1) (by decide) sizeOf36 rfl fd_ (by omega))) ?_
 refine Wa rfl (fun R1 hR1 G => (XD o36 rfl fd_ (QnI hpart))) ?_
 refine Xc ?_
 refine QH rfl ?_
 try simp only [cC]
 refine Ra call89 (QkV m ve hve hmm) ?_
 rintro r R2 L' hR2 ⟨rfl, ve', rfl, hve'⟩
 try simp only [cB]
 refine QI le_ sb_ ?_
 refine QH rfl ?_
 try simp only [cC]
 refine Qu XO rfl (wn0 rfl) rfl rfl (msgE.one (R := R2) (x := m) ⟨ve', rfl, hve'⟩) fd_ (by exact Nat.le_refl 10) rfl ?_
 refine QI le_ sb_ ?_
 refine Xe ?_
 try simp only [cC]
 refine Ps (Ps (Qe (hK7 _ _ _ ?_)))
 refine Ql (eL 4 rfl (eL 5 rfl (eL 6 rfl eN))) ?_
 refine Qi (hret _ _ _ ?_)
 refine Ea results67 (.cons (QN XO rfl fd_ rfl rfl) (.cons (Qh rfl) (.cons (Qh rfl) .nil))) [Yf b v last, XY v st css] le_ ?_
 rw [ea, eb]; exact ⟨rfl, ve', rfl, hve'⟩
theorem Els.eraseIdx {α : Type} {T : Elt α} {R : Hp} {l : List α} {css : List (List Value)} (k : Els T R l css) (i : Nat) : Els T R (l.eraseIdx i) (css.eraseIdx i) := by
 rw [List.eraseIdx_eq_take_drop_succ, List.eraseIdx_eq_take_drop_succ]
 exact (k.take i).app (k.drop (i + 1))
theorem QhX {α : Type} {T : Elt α} {R : Hp} {l : List α} {css : List (List Value)} (k : Els T R l css) (i : Nat) : css.flatten.take (i * T.sz) ++ css.flatten.drop ((i + 1) * T.sz) = (css.eraseIdx i).flatten := by
 rw [QhU i k.len, QhW (i + 1) k.len, List.eraseIdx_eq_take_drop_succ, List.flatten_append]
theorem Ql5 {st : List YM} {i : Int} (h0 : ¬ i < 0) (h1 : ¬ (st.length : Int) ≤ i) : ∃ n : Nat, i = n ∧ n < st.length ∧ XR st i = true := by
 obtain ⟨n, rfl⟩ := Int.eq_ofNat_of_zero_le (show 0 ≤ i by omega)
 exact ⟨n, rfl, by omega, by unfold XR; simp; omega⟩
theorem QdI {R : Hp} (b : Nat) (v : Value) (last : Int) (st : List YM) (css : List (List Value)) (hk : Els oneE R st css) (hst : st.length ≤ 1000000) (i : Int) :
  Tri prog 48 [.pointer (some ⟨b, 0, none⟩), .int .i64 i] R [Yf b v last, XY v st css]
   (fun r R' L' => R = R' ∧ r = .bool (XR st i) ∧ ∃ v' css', Els oneE R' (Zn st i) css' ∧ L' = [Yf b v' last, XY v' (Zn st i) css']) := by
 refine Qn func48 rfl ntmps48 rfl (fun σ F Q hret hend hpan => ?_)
 try simp only [cB]
 refine Qd fun K1 hK1 => Qc (Ps (Qe (hK1 _ _ _ (Qd fun K2 hK2 => Qd fun K3 hK3 => Qc ?_))))
 refine Pm ?_
 refine Pa (QO rfl rfl) (Pm ?_)
 refine QE 7 rfl (fun hg7 => ?_) (fun hg7 => ?_)
 try simp only [dx] at hg7
 refine Pk (Pk (Pk (Pk ?_)))
 refine Pa (Qr rfl rfl) (Qe (hK3 _ _ _ (Qv rfl (Qd fun K4 hK4 => Qc ?_))))
 refine Ps (Qe (hK4 _ _ _ (Qi (hret _ _ _ ?_))))
 refine Ea results48 (.cons (Qh rfl) .nil) [Yf b v last, XY v st css] le_ ?_
 have hb : XR st i = false := by unfold XR; simp; omega
 rw [(qn hb).2, hb]; exact ⟨rfl, rfl, v, css, hk, rfl⟩
 try simp only [dx] at hg7
 refine Pb (Qg rfl) ?_
 refine Pb (Qg rfl) ?_
 refine Pb (Ca call29 (zw b v last st css)) ?_
 refine Pb (YX rfl rfl) ?_
 refine Pa (Qo rfl rfl) (Qe (hK3 _ _ _ ?_))
 refine Qm rfl (fun hc12 => ?_) (fun hc12 => ?_)
 try simp only [dx] at hc12
 refine Qd fun K6 hK6 => Qc (Ps (Qe (hK6 _ _ _ (Qi (hret _ _ _ ?_)))))
 refine Ea results48 (.cons (Qh rfl) .nil) [Yf b v last, XY v st css] le_ ?_
 have hb : XR st i = false := by unfold XR; simp; omega
 rw [(qn hb).2, hb]; exact ⟨rfl, rfl, v, css, hk, rfl⟩
 try simp only [dx] at hc12
 refine Qj (hK2 _ _ _ (Qd fun K7 hK7 => Qc ?_))
 obtain ⟨i, rfl, hi, hb⟩ := Ql5 (st := st) (i := i) (by (try simp at hg7 hc12); omega) (by (try simp at hg7 hc12); omega)
 have hflat := QhX hk i
 have hlen : st.length - 1 = (st.eraseIdx i).length := by rw [List.length_eraseIdx_of_lt hi]
 have hdl : Zn st i = st.eraseIdx i := by unfold Zn; rw [if_pos hb]; rfl
 refine Pm (Pm ?_)
 refine Pa (Qf rfl) ?_
 refine Pa (Ga underlying115 sizeOf113) ?_
 refine Pa (La QbR) (Pm (Pm ?_))
 refine Pa (Qt rfl rfl om_) ?_
 refine Xg 20 rfl (v' := .int .i64 ((i + 1 : Nat) : Int)) (by congr 1) ?_
 refine Ra call66 (Qn1 v st.length css.flatten i hi hk.one) ?_
 rintro r R' L' hR ⟨rfl, hro, rfl⟩
 rw [show css.flatten.take (i * 11) ++ css.flatten.drop ((i + 1) * 11) = (css.eraseIdx i).flatten from hflat, hlen]
 try simp only [cB]
 refine Pa (Qf rfl) ?_
 refine Pa (Ga underlying115 sizeOf113) ?_
 refine Sa QbR ?_
 refine Qe (hK7 _ _ _ ?_)
 refine Ql eN ?_
 refine Qd fun K8 hK8 => Qc (Ps (Qe (hK8 _ _ _ (Qi (hret _ _ _ ?_)))))
 refine Ea results48 (.cons (Qh rfl) .nil) [Yf b r last, XY r (st.eraseIdx i) (css.eraseIdx i)] le_ ?_
 rw [hdl, hb]; exact ⟨rfl, rfl, r, _, hk.eraseIdx i, rfl⟩
theorem QdH {R : Hp} (b : Nat) (v : Value) (last : Int) (st : List YM) (css : List (List Value)) (hk : Els oneE R st css) (hsm : QaG st) (hst : st.length ≤ 1000000) (i : Int) :
  Tri prog 52 [.pointer (some ⟨b, 0, none⟩), .int .i64 i] R [Yf b v last, XY v st css]
   (fun r R' L' => (∃ ve, r = .tuple #[.agg ⟨QT (atM st i).2 ve⟩, .bool (XR st i)] ∧ FrX entE R' (atM st i).2.es ve) ∧ ∃ v' css', Els oneE R' (Zn st i) css' ∧ L' = [Yf b v' last, XY v' (Zn st i) css']) := by
 refine Qn func52 rfl ntmps52 rfl (fun σ F Q hret hend hpan => ?_)
 try simp only [cB]
 refine Qd fun K1 hK1 => Qc ?_
 refine QA (wn0 rfl) rfl zeroValue117 rfl (fun bo => ?_)
 refine Ps (Qe (hK1 _ _ _ (Qd fun K2 hK2 => Qc ?_)))
 refine Pm (Pm ?_)
 refine Ra call67 (Qgz b v last st css hk hsm i) ?_
 rintro r R1 L' hR1 ⟨rfl, ve, rfl, hve⟩
 have hk1 := hk.mono hR1
 have hone : ∀ u ∈ QT (atM st i).2 ve, u.oneCell' = true := msgE.one (R := R1) (x := (atM st i).2) ⟨ve, rfl, hve⟩
 try simp only [cB]
 refine Pm ?_
 refine Pa (Qq rfl rfl) ?_
 refine Pa (Qq rfl rfl) ?_
 refine Pa (Qq rfl rfl) ?_
 refine QA (wn0 rfl) rfl zeroValue117 rfl (fun b6 => ?_)
 refine Qu XO rfl (wn0 rfl) rfl rfl hone fd_ (by exact Nat.le_refl 10) rfl ?_
 refine Ps (Ps (Qe (hK2 _ _ _ (Qd fun K3 hK3 => ?_))))
 refine Qmr (L := [blk b6 (QT (atM st i).2 ve) 117]) [0, 1, 2, 3, 4] [5, 6, 7] [8] _ Qm9 sb_ (by kernel_rfl) (by kernel_rfl) (by kernel_rfl) rfl ?_
 refine Wa rfl (fun R1 hR1 G => (Lb (vs := QT (atM st i).2 ve) XO)) ?_
 refine Wa rfl (fun R1 hR1 G => (Qg rfl)) ?_
 refine Wa rfl (fun R1 hR1 G => (Qg rfl)) ?_
 refine Qmd 18 rfl (fun hg18 => ?_) (fun hg18 => ?_)
 rw [hg18]
 try simp only [dx] at hg18
 refine Wb rfl (fun R1 hR1 G => (Qg rfl)) ?_
 refine Wb rfl (fun R1 hR1 G => (Qg rfl)) ?_
 refine Xc ?_
 refine yI [5] (by kernel_rfl) ⟨?_, trivial⟩
 refine yA rfl ?_
 try simp only [cC]
 refine XE (wn1 rfl rfl rfl rfl) rfl call48 rfl (QdI b v last st css hk1 hst i) sp_ (fun _ _ _ _ h => h.elim) ?_
 rintro r R2 L' hR2 ⟨rfl, rfl, v2, css2, hk2, rfl⟩
 try simp only [cB]
 refine yD le_ sb_ ?_
 refine yI [6, 7] (by kernel_rfl) ⟨?_, ?_, trivial⟩
 refine yA rfl ?_
 try simp only [cC]
 refine Pa (Qr rfl rfl) ?_
 refine yD le_ sb_ ?_
 refine yI [7] (by kernel_rfl) ⟨?_, trivial⟩
 refine yA rfl ?_
 try simp only [cC]
 refine Qu XO rfl (wn0 rfl) rfl rfl hone fd_ (by exact Nat.le_refl 10) rfl ?_
 refine yD le_ sb_ ?_
 refine Qcg ?_
 try simp only [cC]
 refine Ps (Qe (hK3 _ _ _ (Qi (hret _ _ _ ?_))))
 refine Ea results52 (.cons (QN XO rfl fd_ rfl rfl) (.cons (Qh rfl) .nil)) [Yf b v2 last, XY v2 (Zn st i) css2] le_ ?_
 exact ⟨⟨ve, rfl, hve⟩, v2, css2, hk2, rfl⟩
 refine yA rfl ?_
 try simp only [cC]
 refine Qu XO rfl (wn0 rfl) rfl rfl hone fd_ (by exact Nat.le_refl 10) rfl ?_
 refine yD le_ sb_ ?_
 refine yI [6] (by kernel_rfl) ⟨?_, trivial⟩
 refine yA rfl ?_
 try simp only [cC]
 refine Pa (Qr rfl rfl) ?_
 refine yD le_ sb_ ?_
 refine Qcg ?_
 try simp only [cC]
 refine Ps (Qe (hK3 _ _ _ ?_))
 refine Ql (eL 4 rfl (eL 5 rfl eN)) ?_
 refine Qi (hret _ _ _ ?_)
 refine Ea results52 (.cons (QN XO rfl fd_ rfl rfl) (.cons (Qh rfl) .nil)) [Yf b v2 last, XY v2 (Zn st i) css2] le_ ?_
 exact ⟨⟨ve, rfl, hve⟩, v2, css2, hk2, rfl⟩
 rw [hg18]
 try simp only [dx] at hg18
 refine QgM rfl rfl rfl (wn2 rfl rfl rfl rfl rfl) ?_
 refine QgM rfl rfl rfl (wn2 rfl rfl rfl rfl rfl) ?_
 refine Xc ?_
 refine yI [5] (by kernel_rfl) ⟨?_, trivial⟩
 refine yA rfl ?_
 try simp only [cC]
 refine Pk ?_
 refine yD le_ sb_ ?_
 refine yI [6, 7] (by kernel_rfl) ⟨?_, ?_, trivial⟩
 refine yA rfl ?_
 try simp only [cC]
 refine Pa (Qo rfl rfl) ?_
 refine yD le_ sb_ ?_
 refine yI [7] (by kernel_rfl) ⟨?_, trivial⟩
 refine yA rfl ?_
 try simp only [cC]
 refine Qu XO rfl (wn0 rfl) rfl rfl hone fd_ (by exact Nat.le_refl 10) rfl ?_
 refine yD le_ sb_ ?_
 refine Qcg ?_
 try simp only [cC]
 refine Ps (Qe (hK3 _ _ _ (Qi (hret _ _ _ ?_))))
 refine Ea results52 (.cons (QN XO rfl fd_ rfl rfl) (.cons (Qh rfl) .nil)) [Yf b v last, XY v st css] le_ ?_
 rw [(qn hg18).2]; exact ⟨⟨ve, by rw [hg18]; rfl, hve⟩, v, css, hk1, rfl⟩
 refine yA rfl ?_
 try simp only [cC]
 refine Qu XO rfl (wn0 rfl) rfl rfl hone fd_ (by exact Nat.le_refl 10) rfl ?_
 refine yD le_ sb_ ?_
 refine yI [6] (by kernel_rfl) ⟨?_, trivial⟩
 refine yA rfl ?_
 try simp only [cC]
 refine Pa (Qo rfl rfl) ?_
 refine yD le_ sb_ ?_
 refine Qcg ?_
 try simp only [cC]
 refine Ps (Qe (hK3 _ _ _ (Qi (hret _ _ _ ?_))))
 refine Ea results52 (.cons (QN XO rfl fd_ rfl rfl) (.cons (Qh rfl) .nil)) [Yf b v last, XY v st css] le_ ?_
 rw [(qn hg18).2]; exact ⟨⟨ve, by rw [hg18]; rfl, hve⟩, v, css, hk1, rfl⟩
theorem Qjq {st : List YM} (h : QaG st) (i : Int) : qz (atM st i).2 := by
 cases hb : XR st i with
 | false => rw [(qn hb).1]; simp [qz, Msg.zero]
 | true =>
  obtain ⟨n, rfl⟩ := Int.eq_ofNat_of_zero_le (show 0 ≤ i by unfold XR at hb; simp at hb; omega)
  have hn : n < st.length := by unfold XR at hb; simp at hb; omega
  rw [(Qap (x := st[n]) (by simp)).1]
  exact h _ (List.getElem_mem hn)
def twL (st : List YM) (last i : Int) : List YM := if XR st i then st ++ XN last [(atM st i).2] else st
def twN (st : List YM) (last i : Int) : Int := if XR st i then last + 1 else last
theorem QhG {R : Hp} (b : Nat) (v : Value) (last : Int) (st : List YM) (css : List (List Value)) (hk : Els oneE R st css) (hsm : QaG st) (hst : st.length ≤ 100000) (hl : 0 ≤ last ∧ last ≤ 100000) (i : Int) :
  Tri prog 49 [.pointer (some ⟨b, 0, none⟩), .int .i64 i] R [Yf b v last, XY v st css]
   (fun r R' L' => r = .bool (XR st i) ∧ ∃ v' css', Els oneE R' (twL st last i) css' ∧ L' = [Yf b v' (twN st last i), XY v' (twL st last i) css']) := by
 refine Qn func49 rfl ntmps49 rfl (fun σ F Q hret hend hpan => ?_)
 try simp only [cB]
 refine Qd fun K1 hK1 => Qc (Ps (Qe (hK1 _ _ _ (Qd fun K2 hK2 => Qc ?_))))
 refine Pm (Pm ?_)
 refine Ra call67 (Qgz b v last st css hk hsm i) ?_
 rintro r R1 L' hR1 ⟨rfl, ve, rfl, hve⟩
 have hk1 := hk.mono hR1
 have hone : ∀ u ∈ QT (atM st i).2 ve, u.oneCell' = true := msgE.one (R := R1) (x := (atM st i).2) ⟨ve, rfl, hve⟩
 try simp only [cB]
 refine Pm ?_
 refine Pa (Qq rfl rfl) ?_
 refine Pa (Qq rfl rfl) ?_
 refine Pa (Qq rfl rfl) ?_
 refine QA (wn0 rfl) rfl zeroValue117 rfl (fun b5 => ?_)
 refine Qu XO rfl (wn0 rfl) rfl rfl hone fd_ (by exact Nat.le_refl 10) rfl ?_
 refine Ps (Ps (Qe (hK2 _ _ _ (Qd fun K3 hK3 => Qd fun K4 hK4 => Qc ?_))))
 refine Pm (Qe (hK4 _ _ _ ?_))
 refine Qm rfl (fun hc15 => ?_) (fun hc15 => ?_)
 try simp only [dx] at hc15
 refine Qc (Pm ?_)
 refine Pa ((Lb (vs := QT (atM st i).2 ve) XO)) ?_
 refine Qz (sz := 10) (wn0 rfl) rfl underlying98 sizeOf117 zeroValue117 rfl rfl rfl (by decide) (by decide) (fun bz => ?_)
 refine Yd (e := 117) (sz := 10) (n := 1) (v := .slice (some ⟨bz, 0, none⟩) 1 1) (xs := QT (atM st i).2 ve) fd_ (fun R2 hR2 hfr hxl => ?_)
 have hfx : FrX msgE R2 [(atM st i).2] (.slice (some ⟨bz, 0, none⟩) 1 1) := FrozenS.frx (l := [(atM st i).2]) (css := [QT (atM st i).2 ve]) (by simpa using hfr) (Els.single ⟨ve, rfl, hve.mono hR2⟩)
 refine Ra call65 (Qe4 b v last st css (hk1.mono hR2) _ [(atM st i).2] hfx (fun m hm => by simp at hm; subst hm; exact Qjq hsm i) (by simp; omega) (by simp; omega)) ?_
 rintro r R3 L' hR3 ⟨v3, css3, hk3, rfl⟩
 try simp only [cB]
 refine Qe (hK3 _ _ _ (Qd fun K6 hK6 => Qc (Pm (Ps (Qe (hK6 _ _ _ (Qi (hret _ _ _ ?_))))))))
 refine Ea results49 (.cons (Qh rfl) .nil) [Yf b v3 (last + ([(atM st i).2].length : Nat)), XY v3 (st ++ XN last [(atM st i).2]) css3] (by first | exact Hp.le_trans hR1 (Hp.le_trans hR2 hR3) | exact hR1) ?_
 have e1 : twL st last i = st ++ XN last [(atM st i).2] := by unfold twL; rw [if_pos hc15]
 have e2 : twN st last i = last + 1 := by unfold twN; rw [if_pos hc15]
 rw [e1, e2]; exact ⟨rfl, v3, css3, hk3, rfl⟩
 try simp only [dx] at hc15
 refine Qj (hK3 _ _ _ (Qd fun K7 hK7 => Qc (Pm (Ps (Qe (hK7 _ _ _ (Qi (hret _ _ _ ?_))))))))
 refine Ea results49 (.cons (Qh rfl) .nil) [Yf b v last, XY v st css] (by first | exact Hp.le_trans hR1 (Hp.le_trans hR2 hR3) | exact hR1) ?_
 have e1 : twL st last i = st := by unfold twL; rw [hc15]; rfl
 have e2 : twN st last i = last := by unfold twN; rw [hc15]; rfl
 rw [e1, e2]; exact ⟨rfl, v, css, hk1, rfl⟩
theorem QbH (m j : Nat) : ((m : Nat) : Int).tmod (j : Int) = ((m % j : Nat) : Int) := by rw [Int.tmod_eq_emod_of_nonneg (by omega)]; rfl
theorem Qeu (m j : Nat) : ((m : Nat) : Int).tdiv (j : Int) = ((m / j : Nat) : Int) := by rw [Int.tdiv_eq_ediv_of_nonneg (by omega)]; rfl
theorem QmY {R : Hp} (n : Nat) (hn : n < 18446744073709551616) : QTri prog 183 [.int .u64 (n : Int)] R [] (.string (str (Xq n))) := by
 have hnl : (Xq n).length ≤ 8 := qA 8 n (by omega)
 refine Tri.q ?_
 refine Qn func183 rfl ntmps183 rfl (fun σ F Q hret hend hpan => ?_)
 try simp only [cB]
 refine Qd fun K1 hK1 => Qc (Ps (Qe (hK1 _ _ _ (Qd fun K2 hK2 => Qc ?_))))
 refine Ps (Qe (hK2 _ _ _ (Qd fun K3 hK3 => Qp ?_)))
 refine Ql (E' := (fun (x : Nat × List UInt8) => [(0, .int .u64 (x.1 : Int)), (3, .string (str x.2))]) (n, [])) (eC rfl (eC rfl eN)) ?_
 refine Xi (M := (fun (x : Nat × List UInt8) => F) (n, [])) sb_ ?_
 refine QY (fun (x : Nat × List UInt8) => [(0, .int .u64 (x.1 : Int)), (3, .string (str x.2))]) (fun (x : Nat × List UInt8) => R) (fun (x : Nat × List UInt8) => F) (fun (x : Nat × List UInt8) => x.1 ≤ n ∧ Xq x.1 ++ x.2 = Xq n) (fun (x : Nat × List UInt8) => x.1) (n, []) (⟨Nat.le_refl _, by simp⟩) ?_
 rintro ⟨m, acc⟩ ⟨hm, he⟩
 try dsimp only
 dsimp only at hm he
 have hel := congrArg List.length he
 simp only [List.length_append] at hel
 refine Qd fun K4 hK4 => Qd fun K5 hK5 => Qc (Pm ?_)
 refine Pa (Xs rfl rfl) (Qe (hK5 _ _ _ ?_))
 refine Qm rfl (fun hc5 => ?_) (fun hc5 => ?_)
 try simp only [dx] at hc5
 refine Qj (hK4 _ _ _ (Qp (Qd fun K7 hK7 => Qc (Pm ?_))))
 refine Pa (zF rfl rfl om_) ?_
 refine Xg 7 rfl (congrArg (Value.int .u64) (QbH m 256)) ?_
 refine Pa (Xp underlying36 underlying5 rfl (by (simp only [IntKind.min, IntKind.max, IntKind.signed, IntKind.bits, Bool.false_eq_true, ite_false, ite_true]; omega))) ?_
 refine Xg 8 rfl (v' := .int .u8 ((UInt8.ofNat (m % 256)).toNat : Int)) (by rw [Yl _ (by omega)]) ?_
 refine Qz (sz := 1) (wn0 rfl) rfl underlying123 sizeOf5 zeroValue5 rfl rfl rfl (by decide) (by decide) (fun b9 => ?_)
 refine Pa ((qN (bs := [UInt8.ofNat (m % 256)]) underlying123 underlying5 underlying9 rfl fd_)) (Pm ?_)
 have hs1 : [UInt8.ofNat (m % 256)].length + acc.length ≤ 9223372036854775807 := by simp; omega
 refine Pa (qx rfl rfl om_) (Ps (Qe (hK7 _ _ _ (Qc (Pm ?_)))))
 refine Pa (Qd8 rfl rfl om_) ?_
 refine Xg 14 rfl (v' := .int .u64 ((m / 256 : Nat) : Int)) (by congr 1; rw [show ((256 : Int)) = ((256 : Nat) : Int) from rfl, Qeu, ZR ⟨by omega, by omega⟩]) ?_
 refine Ps (Qe ?_)
 refine Xl (q' := QS _ _ _ _ _ _ _) rfl ?_
 refine QC ((m / 256, [UInt8.ofNat (m % 256)] ++ acc)) (⟨by dsimp only; omega, by dsimp only; rw [← he, yq (n := m) (by (try simp at hc5); omega)]; simp⟩) (by dsimp only; (try simp at hc5); omega) (eC rfl (eC rfl eN)) rfl sb_
 try simp only [dx] at hc5
 refine QL (hK3 _ _ _ (Qd fun K8 hK8 => Qc (Pm (Ps (Qe (hK8 _ _ _ (Qi (hret _ _ _ ?_))))))))
 refine Ea results183 (.cons (Qh rfl) .nil) [] le_ ?_
 refine ⟨?_, rfl, rfl⟩; obtain rfl : m = 0 := by (try simp at hc5); omega
 rw [ZK, List.nil_append] at he; rw [← he]; rfl
theorem Qho {R : Hp} (n : Nat) (hn : n ≤ big) : QTri prog 184 [.int .i64 (n : Int)] R [] (.string (str (Xt n))) := by
 unfold big at hn
 have hsl := Za 5 n (by simp; omega)
 refine Tri.q ?_
 refine Qn func184 rfl ntmps184 rfl (fun σ F Q hret hend hpan => ?_)
 try simp only [cB]
 refine Qd fun K1 hK1 => Qc (Ps (Qe (hK1 _ _ _ (Qd fun K2 hK2 => Qc ?_))))
 refine Ps (Qe (hK2 _ _ _ (Qd fun K3 hK3 => Qp ?_)))
 refine Ql (E' := (fun (x : Nat × List UInt8) => [(0, .int .i64 (x.1 : Int)), (3, .string (str x.2))]) (n, [])) (eC rfl (eC rfl eN)) ?_
 refine Xi (M := (fun (x : Nat × List UInt8) => F) (n, [])) sb_ ?_
 refine QY (fun (x : Nat × List UInt8) => [(0, .int .i64 (x.1 : Int)), (3, .string (str x.2))]) (fun (x : Nat × List UInt8) => R) (fun (x : Nat × List UInt8) => F) (fun (x : Nat × List UInt8) => x.1 ≤ n ∧ x.2 ++ Xt x.1 = Xt n) (fun (x : Nat × List UInt8) => x.1) (n, []) (⟨Nat.le_refl _, by simp⟩) ?_
 rintro ⟨m, acc⟩ ⟨hm, he⟩
 try dsimp only
 dsimp only at hm he
 have hel := congrArg List.length he
 simp only [List.length_append] at hel
 refine Qd fun K4 hK4 => Qd fun K5 hK5 => Qc (Pm ?_)
 refine Pa (YX rfl rfl) (Qe (hK5 _ _ _ ?_))
 refine Qm rfl (fun hc5 => ?_) (fun hc5 => ?_)
 try simp only [dx] at hc5
 refine Qj (hK4 _ _ _ (Qp (Qd fun K7 hK7 => Qc (Pm (Pm ?_)))))
 refine Pa (zF rfl rfl om_) ?_
 refine Xg 8 rfl (congrArg (Value.int .i64) (QbH m 128)) ?_
 refine Pa (Qt rfl rfl om_) ?_
 refine Pa (Xp underlying3 underlying5 rfl (by (simp only [IntKind.min, IntKind.max, IntKind.signed, IntKind.bits, Bool.false_eq_true, ite_false, ite_true]; omega))) ?_
 refine Xg 10 rfl (v' := .int .u8 ((UInt8.ofNat (m % 128 + 128)).toNat : Int)) (by rw [Yl _ (by omega)]; rfl) ?_
 refine Qz (sz := 1) (wn0 rfl) rfl underlying123 sizeOf5 zeroValue5 rfl rfl rfl (by decide) (by decide) (fun b11 => ?_)
 refine Pa ((qN (bs := [UInt8.ofNat (m % 128 + 128)]) underlying123 underlying5 underlying9 rfl fd_)) ?_
 have hs1 : acc.length + [UInt8.ofNat (m % 128 + 128)].length ≤ 9223372036854775807 := by simp; omega
 refine Pa (qx rfl rfl om_) (Ps (Qe (hK7 _ _ _ (Qc (Pm ?_)))))
 refine Pa (Qd8 rfl rfl om_) ?_
 refine Xg 15 rfl (v' := .int .i64 ((m / 128 : Nat) : Int)) (by congr 1; rw [show ((128 : Int)) = ((128 : Nat) : Int) from rfl, Qeu, ZA ⟨by omega, by omega⟩]) ?_
 refine Ps (Qe ?_)
 refine Xl (q' := QS _ _ _ _ _ _ _) rfl ?_
 refine QC ((m / 128, acc ++ [UInt8.ofNat (m % 128 + 128)])) (⟨by dsimp only; omega, by dsimp only; rw [← he, qQ (n := m) (by (try simp at hc5); omega)]; simp⟩) (by dsimp only; (try simp at hc5); omega) (eC rfl (eC rfl eN)) rfl sb_
 try simp only [dx] at hc5
 refine QL (hK3 _ _ _ (Qd fun K8 hK8 => Qc (Pm (Pm ?_))))
 refine Pa (Xp underlying3 underlying5 rfl (by (simp only [IntKind.min, IntKind.max, IntKind.signed, IntKind.bits, Bool.false_eq_true, ite_false, ite_true]; omega))) ?_
 refine Xg 18 rfl (v' := .int .u8 ((UInt8.ofNat m).toNat : Int)) (by rw [Yl _ (by (try simp at hc5); omega)]) ?_
 refine Qz (sz := 1) (wn0 rfl) rfl underlying123 sizeOf5 zeroValue5 rfl rfl rfl (by decide) (by decide) (fun b19 => ?_)
 refine Pa ((qN (bs := [UInt8.ofNat m]) underlying123 underlying5 underlying9 rfl fd_)) ?_
 have hs1 : acc.length + [UInt8.ofNat m].length ≤ 9223372036854775807 := by simp; omega
 refine Pa (qx rfl rfl om_) (Ps (Qe (hK8 _ _ _ ?_)))
 refine Ql (eL 2 rfl eN) ?_
 refine Qi (hret _ _ _ ?_)
 refine Ea results184 (.cons (Qh rfl) .nil) [] le_ ?_
 refine ⟨?_, rfl, rfl⟩; rw [← he, Yp (n := m) (by (try simp at hc5); omega)]; rfl
theorem QmC {l : List Nd} {i : Nat} {x : Nd} (hx : l[i]? = some x) : (wrs (l.take i)).length + (wr x).length ≤ (wrs l).length := by
 have key : ∀ (a b : List Nd), wrs (a ++ b) = wrs a ++ wrs b := by
  intro a b
  induction a with
  | nil => rfl
  | cons y a ih => rw [List.cons_append, wrs, ih, wrs, List.append_assoc]
 have h1 := key (l.take (i + 1)) (l.drop (i + 1))
 rw [List.take_append_drop] at h1
 rw [h1, zp hx]
 simp only [List.length_append]; omega
theorem QjX (N : Nat) : ∀ (x : Nd) (cx : List Value) {R : Hp}, SizeOf.sizeOf x ≤ N → RepN R x cx → OkN x → (wr x).length ≤ big → QTri prog 179 [.agg ⟨cx⟩] R [] (.string (str (wr x))) := by
 induction N using Nat.strongRecOn with
 | _ N ih =>
 intro x cx R hN hx hok hb
 obtain ⟨k, n, s, l, q, cap, rfl, rfl, hs, hl⟩ := hx.inv
 have hlb : l.length ≤ big := hl.choose_spec.1
 obtain ⟨hn, hkids⟩ : n < 18446744073709551616 ∧ ∀ y ∈ l, OkN y := by cases hok with | mk h1 h2 => exact ⟨h1, h2⟩
 have hnl : (Xq n).length ≤ 8 := qA 8 n (by omega)
 have hz1 := Za 5 (Xq n).length (by omega)
 have hs0 := hs
 have hl0 := hlb
 have hb0 := hb
 unfold big at hs hlb hb
 have hz2 := Za 5 s.length (by simp; omega)
 have hz3 := Za 5 l.length (by simp; omega)
 refine Tri.q ?_
 refine Qn func179 rfl ntmps179 rfl (fun σ F Q hret hend hpan => ?_)
 try simp only [cB]
 refine Qd fun K1 hK1 => Qc ?_
 refine Xa (wn0 rfl) rfl rfl rfl (fun b1 => ?_)
 refine Ps (Qe (hK1 _ _ _ (Qd fun K2 hK2 => Qd fun K3 hK3 => Qc ?_)))
 refine Pa (Ga underlying150 sizeOf3) ?_
 refine Pa (La o3) (Qe (hK3 _ _ _ (Qp (Qd fun K4 hK4 => Qc ?_))))
 refine Pa (QB rfl rfl) (Ps (Qe (hK4 _ _ _ ?_)))
 refine Qm rfl (fun hc8 => ?_) (fun hc8 => ?_)
 (try simp only [dx] at hc8); subst hc8
 refine Qd fun K6 hK6 => Qc ?_
 refine Pa (Ga underlying150 sizeOf36) ?_
 refine Pa (La o36) ?_
 refine Pa (Ca call183 (QmY n hn)) (Ps (Qe (hK6 _ _ _ (Qd fun K7 hK7 => Qc ?_))))
 refine Pm ?_
 refine Pa (Yv underlying9 rfl) ?_
 refine Pa (Ca call184 (Qho (Xq n).length (by unfold big; omega))) ?_
 have hq1 : [(110 : UInt8)].length + (Xt (Xq n).length).length ≤ 9223372036854775807 := by simp; omega
 have hq2 : ([(110 : UInt8)] ++ Xt (Xq n).length).length + (Xq n).length ≤ 9223372036854775807 := by simp; omega
 refine Pa (qx rfl rfl om_) (Pm ?_)
 refine Pa (qx rfl rfl om_) (Ps (Qe (hK7 _ _ _ (Qi (hret _ _ _ ?_)))))
 refine Ea results179 (.cons (Qh rfl) .nil) [] le_ ?_
 refine ⟨?_, rfl, rfl⟩; rw [wr, if_pos rfl]; rfl
 try simp only [dx] at hc8
 refine Qd fun K8 hK8 => Qc ?_
 refine Pa (QB rfl rfl) (Ps (Qe (hK8 _ _ _ ?_)))
 refine Ql (eL 1 rfl (eL 19 rfl eN)) ?_
 refine Qm rfl (fun hc19 => ?_) (fun hc19 => ?_)
 (try simp only [dx] at hc19); subst hc19
 refine Qd fun K10 hK10 => ?_
 refine Xr (by kernel_rfl) (by kernel_rfl) ?_
 have hq1 : [(115 : UInt8)].length + (Xt s.length).length ≤ 9223372036854775807 := by simp; omega
 have hq2 : ([(115 : UInt8)] ++ Xt s.length).length + s.length ≤ 9223372036854775807 := by simp; omega
 refine Qa (Ga underlying150 sizeOf9) ?_
 refine Qa (La o9) ?_
 refine Qa (Yv underlying9 rfl) ?_
 refine Qa (Ca call184 (Qho s.length hs0)) ?_
 refine Qa (qx rfl rfl om_) ?_
 refine Qa (Ga underlying150 sizeOf9) ?_
 refine Qa (La o9) ?_
 refine Qa (qx rfl rfl om_) ?_
 refine Qa (Xj rfl) ?_
 refine Xb ?_
 refine hK10 _ _ _ (Qi (hret _ _ _ ?_))
 refine Ea results179 (.cons (Qh rfl) .nil) [] le_ ?_
 refine ⟨?_, rfl, rfl⟩; rw [wr, if_neg (by decide), if_pos rfl]; rfl
 try simp only [dx] at hc19
 refine Qj (hK2 _ _ _ (Qd fun K11 hK11 => Qc ?_))
 refine Pa (Ga underlying150 sizeOf148) ?_
 refine Pa (La Ys) ?_
 refine Pa (QR underlying148 rfl) ?_
 refine Pa (Ca call184 (Qho l.length hl0)) ?_
 have hq1 : [(108 : UInt8)].length + (Xt l.length).length ≤ 9223372036854775807 := by simp; omega
 have hwr : wr (.mk k n s l) = ([108] ++ Xt l.length) ++ wrs l := by rw [wr, if_neg (by simpa using hc8), if_neg (by simpa using hc19)]; simp
 refine Pa (qx rfl rfl om_) (Ps (Qe (hK11 _ _ _ (Qd fun K12 hK12 => Qd fun K13 hK13 => Qc ?_))))
 refine Ps (Qe (hK13 _ _ _ (Qp ?_)))
 refine Qn2 4 rfl (v' := .string (str (([108] ++ Xt l.length) ++ wrs (l.take 0)))) (by simp [wrs]) ?_
 refine Ql (E' := (fun (x : Nat) => [(1, .pointer (some ⟨b1, 0, none⟩)), (4, .string (str (([108] ++ Xt l.length) ++ wrs (l.take x)))), (5, .int .i64 (x : Int))]) 0) (eC rfl (eC rfl (eC rfl eN))) ?_
 refine Xi (M := (fun (x : Nat) => blk b1 [.int .i64 k, .int .u64 ((n : Nat) : Int), .string (str s), .slice q l.length cap] 150 :: F) 0) sb_ ?_
 refine QY (fun (x : Nat) => [(1, .pointer (some ⟨b1, 0, none⟩)), (4, .string (str (([108] ++ Xt l.length) ++ wrs (l.take x)))), (5, .int .i64 (x : Int))]) (fun (x : Nat) => R) (fun (x : Nat) => blk b1 [.int .i64 k, .int .u64 ((n : Nat) : Int), .string (str s), .slice q l.length cap] 150 :: F) (fun (x : Nat) => x ≤ l.length) (fun (x : Nat) => l.length - x) 0 (by simp) ?_
 rintro i hI9
 try dsimp only
 refine Qd fun K14 hK14 => Qd fun K15 hK15 => Qc (Pm ?_)
 refine Pa (Ga underlying150 sizeOf148) ?_
 refine Pa (La Ys) ?_
 refine Pa (QR underlying148 rfl) ?_
 refine Pa (QO rfl rfl) (Qe (hK15 _ _ _ ?_))
 refine Ql (eL 1 rfl (eL 4 rfl (eL 5 rfl (eL 38 rfl eN)))) ?_
 refine Qm rfl (fun hc38 => ?_) (fun hc38 => ?_)
 try simp only [dx] at hc38
 refine Qj (hK14 _ _ _ (Qd fun K17 hK17 => Qp (Qc ?_)))
 obtain ⟨x1, hx1⟩ : ∃ x, l[i]? = some x := ⟨l[i]'(by omega), by simp⟩
 obtain ⟨bb, off, cs, rfl, hc4, hrep, hcell⟩ := hl.at hx1
 have hm1 := List.mem_of_getElem? hx1
 have hle := QmC hx1
 rw [hwr] at hb
 simp only [List.length_append] at hb
 have hq3 : (([(108 : UInt8)] ++ Xt l.length) ++ wrs (l.take i)).length + (wr x1).length ≤ 9223372036854775807 := by simp only [List.length_append]; omega
 refine Pm ?_
 refine Pa (Ga underlying150 sizeOf148) ?_
 refine Pa (La Ys) (Pm ?_)
 refine Pa (Qy underlying148 sizeOf150 rfl rfl om_) ?_
 refine Pa ((XT Qw hc4 rfl (fun j u hj => by simpa using hcell j u hj))) ?_
 refine Pa (Ca call179 (ih (SizeOf.sizeOf x1) (by have := List.sizeOf_lt_of_mem hm1; simp at hN; omega) x1 cs (Nat.le_refl _) hrep (hkids _ hm1) (by unfold big; omega))) ?_
 refine Pa (qx rfl rfl om_) ?_
 refine Xg 48 rfl (v' := .string (str (([108] ++ Xt l.length) ++ wrs (l.take (i + 1))))) (by rw [zp hx1, List.append_assoc]) ?_
 refine Ps (Qe (hK17 _ _ _ (Qc (Pm ?_))))
 refine Pa (Qt rfl rfl om_) (Ps (Qe ?_))
 refine Xl (q' := QS _ _ _ _ _ _ _) rfl ?_
 refine QC (i + 1) (by omega) (by omega) (eC rfl (eC rfl (eC rfl eN))) rfl sb_
 try simp only [dx] at hc38
 refine QL (hK12 _ _ _ (Qd fun K18 hK18 => Qc ?_))
 rw [List.take_of_length_le (by omega), ← hwr]
 refine Pm (Ps (Qe (hK18 _ _ _ (Qi (hret _ _ _ ?_)))))
 refine Ea results179 (.cons (Qh rfl) .nil) [] le_ ?_
 exact ⟨rfl, rfl, rfl⟩
theorem QjL {R : Hp} (x : Nd) (cx : List Value) (hx : RepN R x cx) (hok : OkN x) (hd : ZD x ≤ big) (hb : (wr x).length ≤ big) : QTri prog 175 [.agg ⟨cx⟩] R [] (.tuple #[.string (str (Yk x).1), .bool (Yk x).2]) := by
 obtain ⟨k, n, s, l, q, cap, rfl, rfl, hs, hl⟩ := hx.inv
 obtain ⟨x, hxe⟩ : ∃ x, x = Nd.mk k n s l := ⟨_, rfl⟩
 refine Tri.q ?_
 refine Qn func175 rfl ntmps175 rfl (fun σ F Q hret hend hpan => ?_)
 try simp only [cB]
 refine Qd fun K1 hK1 => Qc ?_
 refine Xa (wn0 rfl) rfl rfl rfl (fun b1 => ?_)
 refine Ps (Ps (Qe (hK1 _ _ _ (Qd fun K2 hK2 => Qd fun K3 hK3 => Qc ?_))))
 refine Pa (Lb Qw) ?_
 refine Pa (Ca call178 (QjM _ _ hx hd)) ?_
 refine Pa (Yq rfl) (Qe (hK3 _ _ _ ?_))
 refine Qm rfl (fun hc7 => ?_) (fun hc7 => ?_)
 (try simp only [dx] at hc7); have hr : ¬ Xf 20 x = true := by rw [hxe]; simpa using hc7
 refine Qd fun K5 hK5 => Qc (Ps (Ps (Qe (hK5 _ _ _ (Qi (hret _ _ _ ?_))))))
 refine Ea results175 (.cons (Qh rfl) (.cons (Qh rfl) .nil)) [] le_ ?_
 rw [← hxe, show Yk x = ([], false) by unfold Yk; rw [if_neg (fun h => hr h.1)]]; exact ⟨rfl, rfl, rfl⟩
 (try simp only [dx] at hc7); have hr : Xf 20 x = true := by rw [hxe]; simpa using hc7
 refine Qj (hK2 _ _ _ (Qd fun K6 hK6 => Qc ?_))
 refine Pa (Lb Qw) ?_
 refine Pa (Ca call179 (QjX _ _ _ (Nat.le_refl _) hx hok hb)) (Ps (Qe (hK6 _ _ _ (Qd fun K7 hK7 => Qd fun K8 hK8 => Qc ?_))))
 refine Pm ?_
 refine Pa (Yv underlying9 rfl) ?_
 refine Pa (Xs rfl rfl) (Qe (hK8 _ _ _ ?_))
 refine Qm rfl (fun hc12 => ?_) (fun hc12 => ?_)
 try simp only [dx] at hc12
 refine Qd fun K10 hK10 => Qc (Ps (Ps (Qe (hK10 _ _ _ (Qi (hret _ _ _ ?_))))))
 refine Ea results175 (.cons (Qh rfl) (.cons (Qh rfl) .nil)) [] le_ ?_
 rw [← hxe] at hc12 ⊢; rw [show Yk x = ([], false) by unfold Yk; rw [if_neg (fun h => by have := h.2; (try simp at hc12); omega)]]; exact ⟨rfl, rfl, rfl⟩
 try simp only [dx] at hc12
 refine Qj (hK7 _ _ _ (Qd fun K11 hK11 => Qc (Pm (Ps (Ps (Qe (hK11 _ _ _ (Qi (hret _ _ _ ?_)))))))))
 refine Ea results175 (.cons (Qh rfl) (.cons (Qh rfl) .nil)) [] le_ ?_
 rw [← hxe] at hc12 ⊢; rw [show Yk x = (wr x, true) by unfold Yk; rw [if_pos ⟨hr, by (try simp at hc12); omega⟩]]; exact ⟨rfl, rfl, rfl⟩
def ja (s : List UInt8) (at_ : Nat) : Int × Int := match szM 4 0 0 (s.drop at_) with
 | some (n, r) => ((n : Int), ((s.length - r.length : Nat) : Int))
 | none => (0, -1)
theorem zM {s : List UInt8} {a : Nat} (h : szM 4 0 0 (s.drop a) = none) : ja s a = (0, -1) := by unfold ja; rw [h]
theorem zL {s : List UInt8} {a n : Nat} {r : List UInt8} (h : szM 4 0 0 (s.drop a) = some (n, r)) : ja s a = ((n : Int), ((s.length - r.length : Nat) : Int)) := by unfold ja; rw [h]
theorem QmG {a a' b b' : Int} (h1 : a = a') (h2 : b = b') : Value.tuple #[.int .i64 a, .int .i64 b] = .tuple #[.int .i64 a', .int .i64 b'] := by rw [h1, h2]
theorem QgU {s : List UInt8} {i : Nat} (h : i < s.length) : ∃ u, s.drop i = u :: s.drop (i + 1) ∧ XB s (i : Int) = (u.toNat : Int) := by
 refine ⟨s[i], List.drop_eq_getElem_cons h, ?_⟩
 simp [XB, h]
theorem Qly {R : Hp} (s : List UInt8) (a : Nat) (hs : s.length ≤ big) (ha : a ≤ big + 1) : QTri prog 180 [.string (str s), .int .i64 (a : Int)] R [] (.tuple #[.int .i64 (ja s a).1, .int .i64 (ja s a).2]) := by
 unfold big at hs ha
 refine Tri.q ?_
 refine Qn func180 rfl ntmps180 rfl (fun σ F Q hret hend hpan => ?_)
 try simp only [cB]
 refine Qd fun K1 hK1 => Qc (Ps (Ps (Qe (hK1 _ _ _ (Qd fun K2 hK2 => Qc ?_)))))
 refine Ps (Qe (hK2 _ _ _ (Qd fun K3 hK3 => Qc ?_)))
 refine Ps (Qe (hK3 _ _ _ (Qd fun K4 hK4 => Qd fun K5 hK5 => Qc ?_)))
 refine Pm (Ps (Qe (hK5 _ _ _ (Qp ?_))))
 refine Ql (E' := (fun (x : Nat × Nat) => [(0, .string (str s)), (1, .int .i64 (a : Int)), (6, .int .i64 (x.2 : Int)), (7, .int .i64 ((128 ^ x.1 : Nat) : Int)), (8, .int .i64 ((a + x.1 : Nat) : Int))]) (0, 0)) (eC rfl (eC rfl (eC rfl (eC rfl (eC rfl eN))))) ?_
 refine Xi (M := (fun (x : Nat × Nat) => F) (0, 0)) sb_ ?_
 refine QY (fun (x : Nat × Nat) => [(0, .string (str s)), (1, .int .i64 (a : Int)), (6, .int .i64 (x.2 : Int)), (7, .int .i64 ((128 ^ x.1 : Nat) : Int)), (8, .int .i64 ((a + x.1 : Nat) : Int))]) (fun (x : Nat × Nat) => R) (fun (x : Nat × Nat) => F) (fun (x : Nat × Nat) => x.1 ≤ 4 ∧ x.2 < 128 ^ x.1 ∧ szM 4 0 0 (s.drop a) = szM (4 - x.1) x.1 x.2 (s.drop (a + x.1)) ∧ (x.1 > 0 → a + x.1 ≤ s.length)) (fun (x : Nat × Nat) => 4 - x.1) (0, 0) (⟨by simp, by simp, rfl, fun h => by simp at h⟩) ?_
 rintro ⟨j, acc⟩ ⟨hj, hac, hz, hin⟩
 try dsimp only
 dsimp only at hj hac hz hin
 have hp : 128 ^ j ≤ 128 ^ 4 := Nat.pow_le_pow_right (by omega) hj
 have hp4 : (128 : Nat) ^ 4 = 268435456 := by decide
 refine Qd fun K6 hK6 => Qd fun K7 hK7 => Qc (Pm (Pm ?_))
 refine Pa (Yv underlying9 rfl) ?_
 refine Pa (QO rfl rfl) (Pm ?_)
 refine QE 15 rfl (fun hg15 => ?_) (fun hg15 => ?_)
 try simp only [dx] at hg15
 refine Pb (Qg rfl) ?_
 refine Pb (Qg rfl) ?_
 refine Pb (Qt rfl rfl om_) ?_
 refine Pb (QO rfl rfl) ?_
 refine Pa (Qr rfl rfl) (Qe (hK7 _ _ _ ?_))
 refine Qm rfl (fun hc20 => ?_) (fun hc20 => ?_)
 (try simp only [dx] at hc20)
 refine Qj (hK6 _ _ _ (Qd fun K9 hK9 => Qp (Qd fun K10 hK10 => Qc ?_)))
 have hlt : a + j < s.length ∧ j < 4 := by (try simp at hc20); (try simp at hg14); omega
 obtain ⟨u, hu1, hu2⟩ := QgU hlt.1
 obtain ⟨f, hf⟩ : ∃ f, 4 - j = f + 1 := ⟨3 - j, by omega⟩
 have hul := u.toNat_lt
 have hm1 : u.toNat % 128 * 128 ^ j ≤ 127 * 128 ^ j := Nat.mul_le_mul_right _ (by omega)
 have hp3 : 128 ^ j ≤ 128 ^ 3 := Nat.pow_le_pow_right (by omega) (by omega)
 have hp33 : (128 : Nat) ^ 3 = 2097152 := by decide
 refine Pm (Pm ?_)
 refine Pa (Yx underlying9 rfl rfl om_) ?_
 refine Xg 25 rfl (congrArg (Value.int .u8) hu2) ?_
 refine Pa (Xp underlying5 underlying3 rfl (by (simp only [IntKind.min, IntKind.max, IntKind.signed, IntKind.bits, Bool.false_eq_true, ite_false, ite_true]; omega))) ?_
 refine Ps (Qe (hK10 _ _ _ ?_))
 refine Ql (eL 0 rfl (eL 1 rfl (eL 6 rfl (eL 7 rfl (eL 8 rfl (eL 9 rfl eN)))))) ?_
 refine Qd fun K11 hK11 => Qc (Pm (Pm ?_))
 refine Pa (zF rfl rfl om_) ?_
 refine Xg 29 rfl (congrArg (Value.int .i64) (QbH u.toNat 128)) ?_
 refine Pm ?_
 refine Pa (jr rfl rfl om_) ?_
 refine Xg 31 rfl (v' := .int .i64 ((u.toNat % 128 * 128 ^ j : Nat) : Int)) (by first | rfl | (congr 1; rw [Int.natCast_mul])) ?_
 refine Pa (Qt rfl rfl om_) (Ps (Qe (hK11 _ _ _ (Qd fun K12 hK12 => Qc ?_))))
 refine Pm ?_
 refine Pa (jr rfl rfl om_) (Ps (Qe (hK12 _ _ _ (Qd fun K13 hK13 => Qc ?_))))
 refine Pm ?_
 refine Pa (QO rfl rfl) (Qe (hK13 _ _ _ ?_))
 refine Qm rfl (fun hc36 => ?_) (fun hc36 => ?_)
 (try simp only [dx] at hc36)
 have hsz : szM 4 0 0 (s.drop a) = if u.toNat = 0 ∧ j > 0 then none else some (acc + u.toNat * 128 ^ j, s.drop (a + j + 1)) := by rw [hz, hf, hu1, szM, if_pos (by (try simp at hc36); omega)]
 have hum : u.toNat % 128 = u.toNat := Nat.mod_eq_of_lt (by (try simp at hc36); omega)
 refine Qd fun K15 hK15 => Qd fun K16 hK16 => Qc (Pm ?_)
 refine Pa (QB rfl rfl) (Pm ?_)
 refine QE 39 rfl (fun hg39 => ?_) (fun hg39 => ?_)
 try simp only [dx] at hg39
 refine Pb (Qg rfl) ?_
 refine Pb (Qg rfl) ?_
 refine Pb (Xs rfl rfl) ?_
 refine Pa (Qr rfl rfl) (Qe (hK16 _ _ _ ?_))
 refine Ql (eL 6 rfl (eL 8 rfl (eL 43 rfl eN))) ?_
 refine Qm rfl (fun hc43 => ?_) (fun hc43 => ?_)
 try simp only [dx] at hc43
 refine Qd fun K18 hK18 => Qc (Ps (Ps (Qe (hK18 _ _ _ (Qi (hret _ _ _ ?_))))))
 refine Ea results180 (.cons (Qh rfl) (.cons (Qh rfl) .nil)) [] le_ ?_
 refine ⟨?_, rfl, rfl⟩; rw [zM (by rw [hsz, if_pos ⟨by (try simp at hg39); omega, by (try simp at hc43); omega⟩])]; rfl
 try simp only [dx] at hc43
 refine Qj (hK15 _ _ _ (Qd fun K19 hK19 => Qc (Pm (Pm ?_))))
 refine Pa (Qt rfl rfl om_) (Ps (Ps (Qe (hK19 _ _ _ (Qi (hret _ _ _ ?_))))))
 refine Ea results180 (.cons (Qh rfl) (.cons (Qh rfl) .nil)) [] le_ ?_
 refine ⟨?_, rfl, rfl⟩; rw [zL (by rw [hsz, if_neg (by (try simp at hc43); omega)])]; exact QmG (by rw [hum]; omega) (by rw [List.length_drop]; omega)
 try simp only [dx] at hg39
 refine Pk (Pk (Pk ?_))
 refine Pa (Qo rfl rfl) (Qe (hK16 _ _ _ (Qs rfl (Qj (hK15 _ _ _ (Qd fun K20 hK20 => Qc ?_))))))
 refine Pm (Pm ?_)
 refine Pa (Qt rfl rfl om_) (Ps (Ps (Qe (hK20 _ _ _ (Qi (hret _ _ _ ?_))))))
 refine Ea results180 (.cons (Qh rfl) (.cons (Qh rfl) .nil)) [] le_ ?_
 refine ⟨?_, rfl, rfl⟩; rw [zL (by rw [hsz, if_neg (by (try simp at hg39); omega)])]; exact QmG (by rw [hum]; omega) (by rw [List.length_drop]; omega)
 try simp only [dx] at hc36
 refine Qj (hK9 _ _ _ (Qc (Pm ?_)))
 refine Pa (Qt rfl rfl om_) (Ps (Qe ?_))
 refine Xl (q' := QS _ _ _ _ _ _ _) rfl ?_
 refine QC ((j + 1, acc + u.toNat % 128 * 128 ^ j)) (⟨by dsimp only; omega, by dsimp only; rw [Nat.pow_succ]; omega, by dsimp only; rw [hz, hf, hu1, szM, if_neg (by (try simp at hc36); omega), show u.toNat % 128 = u.toNat - 128 by (try simp at hc36); omega, Nat.add_assoc, show 4 - (j + 1) = f by omega], fun _ => by dsimp only; omega⟩) (by dsimp only; omega) (eC rfl (eC rfl (eC rfl (eC rfl (eC rfl eN))))) rfl sb_
 try simp only [dx] at hc20
 refine QL (hK4 _ _ _ ?_)
 refine Ql eN ?_
 refine Qd fun K21 hK21 => Qc (Ps (Ps (Qe (hK21 _ _ _ (Qi (hret _ _ _ ?_))))))
 refine Ea results180 (.cons (Qh rfl) (.cons (Qh rfl) .nil)) [] le_ ?_
 refine ⟨?_, rfl, rfl⟩; rw [zM (by rw [hz, show 4 - j = 0 by (try simp at hc20); omega]; rfl)]; rfl
 try simp only [dx] at hg15
 refine Pk (Pk (Pk (Pk ?_)))
 refine Pa (Qo rfl rfl) (Qe (hK7 _ _ _ ?_))
 refine Ql (eL 0 rfl (eL 1 rfl (eL 6 rfl (eL 7 rfl (eL 8 rfl (eL 20 rfl eN)))))) ?_
 refine Qs rfl (QL (hK4 _ _ _ ?_))
 refine Ql eN ?_
 refine Qd fun K22 hK22 => Qc (Ps (Ps (Qe (hK22 _ _ _ (Qi (hret _ _ _ ?_))))))
 refine Ea results180 (.cons (Qh rfl) (.cons (Qh rfl) .nil)) [] le_ ?_
 refine ⟨?_, rfl, rfl⟩; rw [zM (by rw [hz, List.drop_of_length_le (by (try simp at hg15); omega)]; cases (4 - j) <;> rfl)]; rfl
theorem QjD {s : List UInt8} {a : Nat} (ha : a ≤ s.length) (h : ¬ (ja s a).2 < 0) : ∃ n f, szM 4 0 0 (s.drop a) = some (n, s.drop f) ∧ f ≤ s.length ∧ n < 268435456 ∧ ja s a = ((n : Int), (f : Int)) := by
 cases hz : szM 4 0 0 (s.drop a) with
 | none => rw [zM hz] at h; simp at h
 | some p =>
  obtain ⟨n, q⟩ := p
  obtain ⟨h1, h2⟩ := QmL hz
  have hl := congrArg List.length h1
  simp only [List.length_drop, List.length_append] at hl
  have hq : q = s.drop (s.length - q.length) := by
   have e : (s.drop a).drop (Xt n).length = q := by rw [h1]; simp
   rw [List.drop_drop] at e
   rw [← e]
   congr 1
   rw [List.length_drop]; omega
  exact ⟨n, s.length - q.length, by rw [← hq], by omega, h2, zL hz⟩
theorem QjE {s : List UInt8} {a : Nat} (h : (ja s a).2 < 0) : szM 4 0 0 (s.drop a) = none := by
 cases hz : szM 4 0 0 (s.drop a) with
 | none => rfl
 | some p => obtain ⟨n, q⟩ := p; rw [zL hz] at h; simp at h; omega
def NAt (s : List UInt8) (a d : Nat) (r : Value) (R' : Hp) : Prop := ∃ y cy z, r = .tuple #[.agg ⟨cy⟩, .int .i64 z] ∧ RepN R' y cy ∧
 ((rdM d (s.drop a) = none ∧ z = -1 ∧ y = ZH) ∨ ∃ e : Nat, e ≤ s.length ∧ z = e ∧ rdM d (s.drop a) = some (y, s.drop e))
theorem NAt.none_ {s : List UInt8} {a d : Nat} {R' : Hp} (h : rdM d (s.drop a) = none) : NAt s a d (.tuple #[.agg ⟨[.int .i64 0, .int .u64 0, .string (str []), .slice none 0 0]⟩, .int .i64 (-1)]) R' := ⟨ZH, _, -1, rfl, ZZ R', .inl ⟨h, rfl, rfl⟩⟩
def QcS (r : Option (Nd × List UInt8)) (s : List UInt8) (f n : Nat) (x : Bool) : Prop :=
 (x = true → r = none) ∧ (x = false → n ≤ 8 ∧ f + n ≤ s.length ∧ r = some (.mk 0 (beN ((s.drop f).take n)) [] [], s.drop (f + n)))
def Qbr (d : Nat) : Prop := ∀ (s : List UInt8) (a : Nat) {R : Hp}, d ≤ 20 → s.length ≤ big → a ≤ big →
  Tri prog 177 [.string (str s), .int .i64 (a : Int), .int .i64 (d : Int)] R [] (fun r R' L' => NAt s a d r R' ∧ L' = [])
theorem QeN : Qbr 0 := by
 intro s a R hd hs ha
 refine Qn func177 rfl ntmps177 rfl (fun σ F Q hret hend hpan => ?_)
 try simp only [cB]
 refine Qd fun K1 hK1 => Qc ?_
 refine QA (wn0 rfl) rfl zeroValue150 rfl (fun b6 => ?_)
 refine Ps (Qe (hK1 _ _ _ (Qd fun K2 hK2 => Qc ?_)))
 refine Pa (QV (cells := [_, _, _, _]) [(0, 1), (1, 1), (2, 1), (3, 1)] underlying150 zeroValue150 (fun _ => rfl) rfl rfl) ?_
 refine QA (wn0 rfl) rfl zeroValue150 rfl (fun b8 => ?_)
 refine Qu Qw rfl (wn0 rfl) rfl rfl (by (first | (simp [Value.oneCell']; done) | (intro u hu; simp only [List.mem_cons, List.not_mem_nil, or_false] at hu; rcases hu with rfl | rfl | rfl | rfl <;> first | rfl | assumption))) fd_ (by (simp)) rfl ?_
 refine Qe (hK2 _ _ _ (Qd fun K3 hK3 => Qd fun K4 hK4 => Qc (Pm (Pm ?_))))
 refine Pa (Yv underlying9 rfl) ?_
 refine Pa (YX rfl rfl) (Pm ?_)
 refine QE 22 rfl (fun hg22 => ?_) (fun hg22 => ?_)
 try simp only [dx] at hg22
 refine Pk (Pk ?_)
 refine Pa (Qr rfl rfl) (Qe (hK4 _ _ _ (Qv rfl (Qd fun K5 hK5 => Qc ?_))))
 refine Pa (Lb Qw) ?_
 refine Qu Qw rfl (wn0 rfl) rfl rfl (by (first | (simp [Value.oneCell']; done) | (intro u hu; simp only [List.mem_cons, List.not_mem_nil, or_false] at hu; rcases hu with rfl | rfl | rfl | rfl <;> first | rfl | assumption))) fd_ (by (simp)) rfl ?_
 refine Ps (Qe (hK5 _ _ _ (Qi (hret _ _ _ ?_))))
 refine Ea results177 (.cons (QN Qw rfl fd_ rfl rfl) (.cons (Qh rfl) .nil)) [] le_ ?_
 exact ⟨NAt.none_ rfl, rfl⟩
 try simp only [dx] at hg22
 refine Pb (Qg rfl) ?_
 refine Pb (QO rfl rfl) ?_
 refine Pa (Qo rfl rfl) (Qe (hK4 _ _ _ (Qv rfl (Qd fun K6 hK6 => Qc ?_))))
 refine Pa (Lb Qw) ?_
 refine Qu Qw rfl (wn0 rfl) rfl rfl (by (first | (simp [Value.oneCell']; done) | (intro u hu; simp only [List.mem_cons, List.not_mem_nil, or_false] at hu; rcases hu with rfl | rfl | rfl | rfl <;> first | rfl | assumption))) fd_ (by (simp)) rfl ?_
 refine Ps (Qe (hK6 _ _ _ (Qi (hret _ _ _ ?_))))
 refine Ea results177 (.cons (QN Qw rfl fd_ rfl rfl) (.cons (Qh rfl) .nil)) [] le_ ?_
 exact ⟨NAt.none_ rfl, rfl⟩
theorem QbG {s : List UInt8} {f i : Nat} : XB s ((f + i : Nat) : Int) = XB (s.drop f) (i : Int) := by
 unfold XB
 rw [Int.toNat_natCast, Int.toNat_natCast, List.getD_eq_getElem?_getD, List.getD_eq_getElem?_getD, List.getElem?_drop]
theorem QjW {e n : Nat} {u : UInt8} {t q : List UInt8} (hz : szM 4 0 0 t = some (n, q)) (h1 : ¬ u.toNat = 110) (h2 : ¬ u.toNat = 115) (h3 : ¬ u.toNat = 108) : rdM (e + 1) (u :: t) = none := by
 have g1 : ¬ u = 110 := fun h => by subst h; exact h1 rfl
 have g2 : ¬ u = 115 := fun h => by subst h; exact h2 rfl
 have g3 : ¬ u = 108 := fun h => by subst h; exact h3 rfl
 rw [rdM, hz]; simp [g1, g2, g3]
theorem Qgb {s : List UInt8} {n i : Nat} (h : i < n) : XB (s.take n) (i : Int) = XB s (i : Int) := by
 simp [XB, List.getD_eq_getElem?_getD, List.getElem?_take, h]
section
variable {r : Option (Nd × List UInt8)} {s : List UInt8} {f n : Nat}
 (hr : r = (if n > 8 ∨ (s.drop f).length < n ∨ (n > 0 ∧ (s.drop f).head? = some 0) then none else some (.mk 0 (beN ((s.drop f).take n)) [] [], (s.drop f).drop n)))
include hr
theorem QlN (h : n > 8) : QcS r s f n true := ⟨fun _ => by rw [hr, if_pos (.inl h)], fun h => (by cases h)⟩
theorem QlM (h : s.length < f + n) (hf : f ≤ s.length) : QcS r s f n true := ⟨fun _ => by rw [hr, if_pos (.inr (.inl (by rw [List.length_drop]; omega)))], fun h => (by cases h)⟩
theorem QlL (h8 : ¬ n > 8) (hl : ¬ s.length < f + n) (h0 : n > 0) (hf : f ≤ s.length) : QcS r s f n (decide (XB s (f : Int) = 0)) := by
 have hk := QdP (t := s.drop f) (by rw [List.length_drop]; omega)
 rw [show (0 : Int) = ((0 : Nat) : Int) from rfl, ← QbG, Nat.add_zero] at hk
 refine ⟨fun h => ?_, fun h => ⟨by omega, by omega, ?_⟩⟩
 ·rw [hr, if_pos (.inr (.inr ⟨h0, hk.1 (of_decide_eq_true h)⟩))]
 ·rw [hr, if_neg, List.drop_drop]
  rintro (h1 | h1 | ⟨_, h1⟩)
  ·exact h8 h1
  ·rw [List.length_drop] at h1; omega
  ·exact of_decide_eq_false h (hk.2 h1)
theorem QlK (h0 : n = 0) (hf : f ≤ s.length) : QcS r s f n false := by
 refine ⟨fun h => (by cases h), fun _ => ⟨by omega, by omega, ?_⟩⟩
 rw [hr, if_neg (by rintro (h | h | h) <;> omega), List.drop_drop]
end
theorem QeO (e : Nat) (ih : Qbr e) : Qbr (e + 1) := by
 intro s a R hd hs ha
 have hs0 := hs
 have ha0 := ha
 unfold big at hs ha
 refine Qn func177 rfl ntmps177 rfl (fun σ F Q hret hend hpan => ?_)
 try simp only [cB]
 refine Qd fun K1 hK1 => Qc ?_
 refine QA (wn0 rfl) rfl zeroValue150 rfl (fun bo => ?_)
 refine Ps (Qe (hK1 _ _ _ (Qd fun K2 hK2 => Qc ?_)))
 refine Pa (QV (cells := [_, _, _, _]) [(0, 1), (1, 1), (2, 1), (3, 1)] underlying150 zeroValue150 (fun _ => rfl) rfl rfl) ?_
 refine QA (wn0 rfl) rfl zeroValue150 rfl (fun bz => ?_)
 refine Qu Qw rfl (wn0 rfl) rfl rfl (by (first | (simp [Value.oneCell']; done) | (intro u hu; simp only [List.mem_cons, List.not_mem_nil, or_false] at hu; rcases hu with rfl | rfl | rfl | rfl <;> first | rfl | assumption))) fd_ (by (simp)) rfl ?_
 refine Qe (hK2 _ _ _ (Qd fun K3 hK3 => Qd fun K4 hK4 => Qc (Pm (Pm ?_))))
 refine Pa (Yv underlying9 rfl) ?_
 refine Pa (YX rfl rfl) (Pm ?_)
 refine QE 22 rfl (fun hg22 => ?_) (fun hg22 => ?_)
 (try simp only [dx] at hg22)
 refine Pk (Pk ?_)
 refine Pa (Qr rfl rfl) (Qe (hK4 _ _ _ (Qv rfl (Qd fun K5 hK5 => Qc ?_))))
 refine Pa (Lb Qw) ?_
 refine Qu Qw rfl (wn0 rfl) rfl rfl (by (first | (simp [Value.oneCell']; done) | (intro u hu; simp only [List.mem_cons, List.not_mem_nil, or_false] at hu; rcases hu with rfl | rfl | rfl | rfl <;> first | rfl | assumption))) fd_ (by (simp)) rfl ?_
 refine Ps (Qe (hK5 _ _ _ (Qi (hret _ _ _ ?_))))
 refine Ea results177 (.cons (QN Qw rfl fd_ rfl rfl) (.cons (Qh rfl) .nil)) [] (by first | exact Hp.le_refl _ | exact Hp.le_trans hr1 hR2) ?_
 exact ⟨NAt.none_ (by rw [List.drop_of_length_le (by (try simp at hg22); omega)]; rfl), rfl⟩
 (try simp only [dx] at hg22)
 obtain ⟨u, hu1, hu2⟩ := QgU (s := s) (i := a) (by (try simp at hg22); omega)
 have ha1 : a < s.length := by (try simp at hg22); omega
 refine Pb (Qg rfl) ?_
 refine Pb (QO rfl rfl) ?_
 refine Pa (Qo rfl rfl) (Qe (hK4 _ _ _ (Qs rfl (Qj (hK3 _ _ _ (Qd fun K6 hK6 => Qc ?_))))))
 refine Pm (Pm ?_)
 refine Pa (Qt rfl rfl om_) ?_
 refine Pa (Ca call180 (Qly s (a + 1) hs0 (by omega))) ?_
 refine Pm ?_
 refine Pa (Qq rfl rfl) ?_
 refine Pa (Qq rfl rfl) (Ps (Ps (Qe (hK6 _ _ _ ?_))))
 refine Ql (eL 0 rfl (eL 1 rfl (eL 2 rfl (eL 6 rfl (eL 8 rfl (eL 9 rfl (eL 10 rfl eN))))))) ?_
 refine Qd fun K7 hK7 => Qd fun K8 hK8 => Qc (Pm ?_)
 refine Pa (QO rfl rfl) (Qe (hK8 _ _ _ ?_))
 refine Qm rfl (fun hc35 => ?_) (fun hc35 => ?_)
 (try simp only [dx] at hc35); have hz := QjE hc35
 refine Qd fun K10 hK10 => Qc ?_
 refine Pa (Lb Qw) ?_
 refine Qu Qw rfl (wn0 rfl) rfl rfl (by (first | (simp [Value.oneCell']; done) | (intro u hu; simp only [List.mem_cons, List.not_mem_nil, or_false] at hu; rcases hu with rfl | rfl | rfl | rfl <;> first | rfl | assumption))) fd_ (by (simp)) rfl ?_
 refine Ps (Qe (hK10 _ _ _ (Qi (hret _ _ _ ?_))))
 refine Ea results177 (.cons (QN Qw rfl fd_ rfl rfl) (.cons (Qh rfl) .nil)) [] (by first | exact Hp.le_refl _ | exact Hp.le_trans hr1 hR2) ?_
 exact ⟨NAt.none_ (by rw [hu1, rdM, hz]), rfl⟩
 (try simp only [dx] at hc35); obtain ⟨n, f, hz, hf, hn, heq⟩ := QjD (by omega) (by omega : ¬ (ja s (a + 1)).2 < 0)
 rw [heq]
 refine Qj (hK7 _ _ _ (Qd fun K11 hK11 => Qd fun K12 hK12 => Qc (Pm (Pm ?_))))
 refine Pa (Yx underlying9 rfl rfl om_) ?_
 refine Xg 39 rfl (congrArg (Value.int .u8) hu2) ?_
 refine Qe (hK12 _ _ _ (Qp (Qd fun K13 hK13 => Qc ?_)))
 refine Pa (QB rfl rfl) (Ps (Qe (hK13 _ _ _ ?_)))
 refine Qm rfl (fun hc40 => ?_) (fun hc40 => ?_)
 (try simp only [dx] at hc40); obtain rfl : u = 110 := UInt8.toNat_inj.1 (by simpa using (by omega : u.toNat = 110))
 have hrd : rdM (e + 1) (s.drop a) = (if n > 8 ∨ (s.drop f).length < n ∨ (n > 0 ∧ (s.drop f).head? = some 0) then none else some (.mk 0 (beN ((s.drop f).take n)) [] [], (s.drop f).drop n)) := by rw [hu1, rdM, hz]; simp
 refine Qd fun K15 hK15 => Qd fun K16 hK16 => ?_
 have hJ10 : ∀ (x : Bool), QcS (rdM (e + 1) (s.drop a)) s f n x → EJ ⟨prog, 130, σ⟩ K16 [(0, .string (str s)), (6, .pointer (some ⟨bo, 0, none⟩)), (8, .pointer (some ⟨bz, 0, none⟩)), (9, .int .i64 (n : Int)), (10, .int .i64 (f : Int)), (61, .bool x)] R (blk bz [.int .i64 0, .int .u64 0, .string (str []), .slice none 0 0] 150 :: blk bo [.int .i64 0, .int .u64 0, .string (str []), .slice none 0 0] 150 :: F) := by
  rintro x ⟨j1, j2⟩
  try dsimp only
  refine hK16 _ _ _ ?_
  refine Qm rfl (fun hc61 => ?_) (fun hc61 => ?_)
  subst hc61
  refine Qd fun K18 hK18 => Qc ?_
  refine Pa (Lb Qw) ?_
  refine Qu Qw rfl (wn0 rfl) rfl rfl (by (first | (simp [Value.oneCell']; done) | (intro u hu; simp only [List.mem_cons, List.not_mem_nil, or_false] at hu; rcases hu with rfl | rfl | rfl | rfl <;> first | rfl | assumption))) fd_ (by (simp)) rfl ?_
  refine Ps (Qe (hK18 _ _ _ (Qi (hret _ _ _ ?_))))
  refine Ea results177 (.cons (QN Qw rfl fd_ rfl rfl) (.cons (Qh rfl) .nil)) [] (by first | exact Hp.le_refl _ | exact Hp.le_trans hr1 hR2) ?_
  exact ⟨NAt.none_ (j1 rfl), rfl⟩
  subst hc61
  obtain ⟨hn8, hfl, hrs⟩ := j2 rfl
  have htl : ((s.drop f).take n).length = n := by rw [List.length_take, List.length_drop]; omega
  refine Qj (hK15 _ _ _ (Qd fun K19 hK19 => Qc (Ps (Qe (hK19 _ _ _ (Qd fun K20 hK20 => Qd fun K21 hK21 => Qc ?_))))))
  refine Ps (Qe (hK21 _ _ _ (Qp ?_)))
  refine Ql (E' := (fun (x : Nat) => [(0, .string (str s)), (6, .pointer (some ⟨bo, 0, none⟩)), (9, .int .i64 (n : Int)), (10, .int .i64 (f : Int)), (11, .int .u64 (beN (((s.drop f).take n).take x) : Int)), (12, .int .i64 (x : Int))]) 0) (eC rfl (eC rfl (eC rfl (eC rfl (eC rfl (eC rfl eN)))))) ?_
  refine Xi (M := (fun (x : Nat) => blk bo [.int .i64 0, .int .u64 0, .string (str []), .slice none 0 0] 150 :: F) 0) sb_ ?_
  refine QY (fun (x : Nat) => [(0, .string (str s)), (6, .pointer (some ⟨bo, 0, none⟩)), (9, .int .i64 (n : Int)), (10, .int .i64 (f : Int)), (11, .int .u64 (beN (((s.drop f).take n).take x) : Int)), (12, .int .i64 (x : Int))]) (fun (x : Nat) => R) (fun (x : Nat) => blk bo [.int .i64 0, .int .u64 0, .string (str []), .slice none 0 0] 150 :: F) (fun (x : Nat) => x ≤ n) (fun (x : Nat) => n - x) 0 (by simp) ?_
  rintro i hI13
  try dsimp only
  refine Qd fun K22 hK22 => Qd fun K23 hK23 => Qc (Pm (Pm ?_))
  refine Pa (QO rfl rfl) (Qe (hK23 _ _ _ ?_))
  refine Qm rfl (fun hc65 => ?_) (fun hc65 => ?_)
  try simp only [dx] at hc65
  refine Qj (hK22 _ _ _ (Qd fun K25 hK25 => Qp (Qc ?_)))
  have hlt := Qd2 (t := (s.drop f).take n) (i := i) (by omega) (by omega)
  have hbe := QfH (t := (s.drop f).take n) (i := i) (by omega)
  rw [Qgb (by omega), ← QbG] at hbe
  have h4 := qU s ((f + i : Nat) : Int)
  have h5 : ((f : Int) + (i : Int)) = ((f + i : Nat) : Int) := rfl
  refine Pm ?_
  refine Pa (Qmy rfl rfl om_) (Pm (Pm (Pm ?_)))
  refine Pa (Qt rfl rfl om_) ?_
  refine Xg 73 rfl (v' := .int .i64 ((f + i : Nat) : Int)) rfl ?_
  refine Pa (Yx underlying9 rfl rfl om_) ?_
  refine Pa ((Xp underlying5 underlying36 rfl (by simp only [IntKind.min, IntKind.max, IntKind.signed, IntKind.bits, Bool.false_eq_true, ite_false]; omega))) ?_
  refine Pa (Zq rfl rfl om_) ?_
  refine Xg 76 rfl (v' := .int .u64 (beN (((s.drop f).take n).take (i + 1)) : Int)) (by rw [hbe]; congr 1 <;> omega) ?_
  refine Ps (Qe (hK25 _ _ _ ?_))
  refine Ql (eL 0 rfl (eL 6 rfl (eL 9 rfl (eL 10 rfl (eL 11 rfl (eL 12 rfl eN)))))) ?_
  refine Qc (Pm ?_)
  refine Pa (Qt rfl rfl om_) (Ps (Qe ?_))
  refine Xl (q' := QS _ _ _ _ _ _ _) rfl ?_
  refine QC (i + 1) (by omega) (by omega) (eC rfl (eC rfl (eC rfl (eC rfl (eC rfl (eC rfl eN)))))) rfl sb_
  try simp only [dx] at hc65
  refine QL (hK20 _ _ _ (Qd fun K26 hK26 => Qc ?_))
  rw [List.take_of_length_le (by omega)]
  refine Pm ?_
  refine Pa (QV (cells := [_, _, _, _]) [(0, 1), (1, 1), (2, 1), (3, 1)] underlying150 zeroValue150 (fun _ => rfl) rfl rfl) ?_
  refine Pm (Pm ?_)
  refine Pa (Qt rfl rfl om_) ?_
  refine Qu Qw rfl (wn0 rfl) rfl rfl (by (first | (simp [Value.oneCell']; done) | (intro u hu; simp only [List.mem_cons, List.not_mem_nil, or_false] at hu; rcases hu with rfl | rfl | rfl | rfl <;> first | rfl | assumption))) fd_ (by (simp)) rfl ?_
  refine Ps (Qe (hK26 _ _ _ (Qi (hret _ _ _ ?_))))
  refine Ea results177 (.cons (QN Qw rfl fd_ rfl rfl) (.cons (Qh rfl) .nil)) [] (by first | exact Hp.le_refl _ | exact Hp.le_trans hr1 hR2) ?_
  exact ⟨⟨_, _, _, rfl, RepL.node (k := 0) (s := []) (by simp [big]) (RepL.nil R), .inr ⟨f + n, hfl, by omega, hrs⟩⟩, rfl⟩
 refine Qc (Pm ?_)
 refine Pa (Xs rfl rfl) (Pm ?_)
 refine QE 44 rfl (fun hg44 => ?_) (fun hg44 => ?_)
 (try simp only [dx] at hg44)
 refine Pk (Pk (Pk (Pk (Pk (Pk ?_)))))
 refine Pa (Qr rfl rfl) (Pm (Pk (Pk (Pk ?_))))
 refine QX (wn3 rfl rfl rfl rfl) rfl rfl ?_
 refine QX (wn3 rfl rfl rfl rfl) rfl rfl ?_
 refine QX (wn3 rfl rfl rfl rfl) rfl rfl ?_
 refine QX (wn3 rfl rfl rfl rfl) rfl rfl ?_
 refine Pk ?_
 refine Pa (Qr rfl rfl) (Qe ?_)
 refine QG hJ10 (true) (QlN hrd (by (try simp at hg44); omega)) (eC rfl (eC rfl (eC rfl (eC rfl (eC rfl (eC rfl eN)))))) rfl sb_
 (try simp only [dx] at hg44)
 refine Pb (Qg rfl) ?_
 refine Pb (Qg rfl) ?_
 refine Pb (Qt rfl rfl om_) ?_
 refine Pb (Qg rfl) ?_
 refine Pb (Yv underlying9 rfl) ?_
 refine Pb (Xs rfl rfl) ?_
 refine Pa (Qo rfl rfl) (Pm ?_)
 refine QE 52 rfl (fun hg52 => ?_) (fun hg52 => ?_)
 (try simp only [dx] at hg52)
 refine Pk (Pk (Pk ?_))
 refine QX (wn3 rfl rfl rfl rfl) rfl rfl ?_
 refine QX (wn3 rfl rfl rfl rfl) rfl rfl ?_
 refine QX (wn3 rfl rfl rfl rfl) rfl rfl ?_
 refine QX (wn3 rfl rfl rfl rfl) rfl rfl ?_
 refine Pk ?_
 refine Pa (Qr rfl rfl) (Qe ?_)
 refine QG hJ10 (true) (QlM hrd (by (try simp at hg52); omega) hf) (eC rfl (eC rfl (eC rfl (eC rfl (eC rfl (eC rfl eN)))))) rfl sb_
 (try simp only [dx] at hg52)
 have hfn : f + n ≤ s.length := by (try simp at hg52); omega
 refine Pb (Qg rfl) ?_
 refine Pb (Xs rfl rfl) ?_
 refine Pb (Qg rfl) ?_
 refine QE 55 rfl (fun hg55 => ?_) (fun hg55 => ?_)
 (try simp only [dx] at hg55)
 refine Pb (Qg rfl) ?_
 refine Pb (Qg rfl) ?_
 refine Pb (Yx underlying9 rfl rfl om_) ?_
 refine Pb (QB rfl rfl) ?_
 refine Pb (Qr rfl rfl) ?_
 refine Pa (Qo rfl rfl) (Qe ?_)
 refine QG hJ10 ((decide (XB s (f : Int) = 0))) (QlL hrd (by (try simp at hg44); omega) (by (try simp at hg52); omega) (by (try simp at hg55); omega) hf) (eC rfl (eC rfl (eC rfl (eC rfl (eC rfl (eC rfl eN)))))) rfl sb_
 (try simp only [dx] at hg55)
 refine Pk (Pk (Pk (Pk ?_)))
 refine Pb (Qo rfl rfl) ?_
 refine Pa (Qo rfl rfl) (Qe ?_)
 refine QG hJ10 (false) (QlK hrd (by (try simp at hg55); omega) hf) (eC rfl (eC rfl (eC rfl (eC rfl (eC rfl (eC rfl eN)))))) rfl sb_
 try simp only [dx] at hc40
 refine Qd fun K27 hK27 => Qc ?_
 refine Pa (QB rfl rfl) (Ps (Qe (hK27 _ _ _ ?_)))
 refine Ql (eL 0 rfl (eL 2 rfl (eL 6 rfl (eL 8 rfl (eL 9 rfl (eL 10 rfl (eL 39 rfl (eL 82 rfl eN)))))))) ?_
 refine Qm rfl (fun hc82 => ?_) (fun hc82 => ?_)
 (try simp only [dx] at hc82); obtain rfl : u = 115 := UInt8.toNat_inj.1 (by simpa using (by omega : u.toNat = 115))
 have hrd : rdM (e + 1) (s.drop a) = (if (s.drop f).length < n then none else some (.mk 1 0 ((s.drop f).take n) [], (s.drop f).drop n)) := by rw [hu1, rdM, hz]; simp
 refine Qd fun K29 hK29 => Qd fun K30 hK30 => Qc (Pm (Pm ?_))
 refine Pa (Qt rfl rfl om_) (Pm ?_)
 refine Pa (Yv underlying9 rfl) ?_
 refine Pa (Xs rfl rfl) (Qe (hK30 _ _ _ ?_))
 refine Qm rfl (fun hc89 => ?_) (fun hc89 => ?_)
 (try simp only [dx] at hc89)
 refine Qd fun K32 hK32 => Qc ?_
 refine Pa (Lb Qw) ?_
 refine Qu Qw rfl (wn0 rfl) rfl rfl (by (first | (simp [Value.oneCell']; done) | (intro u hu; simp only [List.mem_cons, List.not_mem_nil, or_false] at hu; rcases hu with rfl | rfl | rfl | rfl <;> first | rfl | assumption))) fd_ (by (simp)) rfl ?_
 refine Ps (Qe (hK32 _ _ _ (Qi (hret _ _ _ ?_))))
 refine Ea results177 (.cons (QN Qw rfl fd_ rfl rfl) (.cons (Qh rfl) .nil)) [] (by first | exact Hp.le_refl _ | exact Hp.le_trans hr1 hR2) ?_
 exact ⟨NAt.none_ (by rw [hrd, if_pos (by rw [List.length_drop]; (try simp at hc89); omega)]), rfl⟩
 (try simp only [dx] at hc89)
 refine Qj (hK29 _ _ _ (Qd fun K33 hK33 => Qc (Pm (Pm (Pm (Pm ?_))))))
 refine Pa (Qt rfl rfl om_) ?_
 refine Pa (Qdr underlying9 rfl rfl rfl om_) ?_
 refine Xg 96 rfl (v' := .string (str ((s.drop f).take n))) (by rw [show ((f : Int) + (n : Int)).toNat - ((f : Int)).toNat = n by omega, Int.toNat_natCast]) ?_
 refine Pa (QV (cells := [_, _, _, _]) [(0, 1), (1, 1), (2, 1), (3, 1)] underlying150 zeroValue150 (fun _ => rfl) rfl rfl) ?_
 refine Pm (Pm ?_)
 refine Pa (Qt rfl rfl om_) ?_
 refine Qu Qw rfl (wn0 rfl) rfl rfl (by (first | (simp [Value.oneCell']; done) | (intro u hu; simp only [List.mem_cons, List.not_mem_nil, or_false] at hu; rcases hu with rfl | rfl | rfl | rfl <;> first | rfl | assumption))) fd_ (by (simp)) rfl ?_
 refine Ps (Qe (hK33 _ _ _ ?_))
 refine Ql (eL 6 rfl (eL 7 rfl eN)) ?_
 refine Qi (hret _ _ _ ?_)
 refine Ea results177 (.cons (QN Qw rfl fd_ rfl rfl) (.cons (Qh rfl) .nil)) [] (by first | exact Hp.le_refl _ | exact Hp.le_trans hr1 hR2) ?_
 exact ⟨⟨_, _, _, rfl, RepL.node (k := 1) (n := 0) (by unfold big; simp; omega) (RepL.nil R), .inr ⟨f + n, by (try simp at hc89); omega, by omega, by rw [hrd, if_neg (by rw [List.length_drop]; (try simp at hc89); omega), List.drop_drop]⟩⟩, rfl⟩
 try simp only [dx] at hc82
 refine Qd fun K34 hK34 => Qc ?_
 refine Pa (QB rfl rfl) (Ps (Qe (hK34 _ _ _ ?_)))
 refine Qm rfl (fun hc101 => ?_) (fun hc101 => ?_)
 (try simp only [dx] at hc101); obtain rfl : u = 108 := UInt8.toNat_inj.1 (by simpa using (by omega : u.toNat = 108))
 have hrd : rdM (e + 1) (s.drop a) = (match rdL (rdM e) n (s.drop f) with | none => none | some (l, r') => some (.mk 2 0 [] l, r')) := by rw [hu1, rdM, hz]; simp only; rw [if_neg (by decide), if_neg (by decide), if_pos trivial]; rfl
 refine Qd fun K36 hK36 => Qc ?_
 refine Pa (QV (cells := [_, _, _, _]) [(0, 1), (1, 1), (2, 1), (3, 1)] underlying150 zeroValue150 (fun _ => rfl) rfl rfl) ?_
 refine QA (wn0 rfl) rfl zeroValue150 rfl (fun bl => ?_)
 refine Qu Qw rfl (wn0 rfl) rfl rfl (by (first | (simp [Value.oneCell']; done) | (intro u hu; simp only [List.mem_cons, List.not_mem_nil, or_false] at hu; rcases hu with rfl | rfl | rfl | rfl <;> first | rfl | assumption))) fd_ (by (simp)) rfl ?_
 refine YR (A := slc 150 4 (.slice none 0 0) 0 []) (Yr _ _) ?_
 refine Qe (hK36 _ _ _ (Qd fun K37 hK37 => Qd fun K38 hK38 => Qc (Ps (Qe (hK38 _ _ _ (Qp ?_))))))
 refine Ql (E' := (fun (x : List Nd × List (List Value) × Value × Nat × Hp) => [(0, .string (str s)), (2, .int .i64 ((e + 1 : Nat) : Int)), (6, .pointer (some ⟨bo, 0, none⟩)), (8, .pointer (some ⟨bz, 0, none⟩)), (9, .int .i64 (n : Int)), (10, .int .i64 (x.2.2.2.1 : Int)), (13, .pointer (some ⟨bl, 0, none⟩)), (14, .int .i64 (x.1.length : Int))]) ([], [], .slice none 0 0, f, R)) (eC rfl (eC rfl (eC rfl (eC rfl (eC rfl (eC rfl (eC rfl (Env.le_cons (Eq.trans rfl (congrArg some (by first | rfl | (exact congrArg (Value.int .i64) (by simp))))) eN)))))))) ?_
 refine Xi (M := (fun (x : List Nd × List (List Value) × Value × Nat × Hp) => slc 150 4 x.2.2.1 x.1.length x.2.1.flatten :: blk bl [.int .i64 2, .int .u64 0, .string (str []), x.2.2.1] 150 :: blk bz [.int .i64 0, .int .u64 0, .string (str []), .slice none 0 0] 150 :: blk bo [.int .i64 0, .int .u64 0, .string (str []), .slice none 0 0] 150 :: F) ([], [], .slice none 0 0, f, R)) sb_ ?_
 refine QY (fun (x : List Nd × List (List Value) × Value × Nat × Hp) => [(0, .string (str s)), (2, .int .i64 ((e + 1 : Nat) : Int)), (6, .pointer (some ⟨bo, 0, none⟩)), (8, .pointer (some ⟨bz, 0, none⟩)), (9, .int .i64 (n : Int)), (10, .int .i64 (x.2.2.2.1 : Int)), (13, .pointer (some ⟨bl, 0, none⟩)), (14, .int .i64 (x.1.length : Int))]) (fun (x : List Nd × List (List Value) × Value × Nat × Hp) => x.2.2.2.2) (fun (x : List Nd × List (List Value) × Value × Nat × Hp) => slc 150 4 x.2.2.1 x.1.length x.2.1.flatten :: blk bl [.int .i64 2, .int .u64 0, .string (str []), x.2.2.1] 150 :: blk bz [.int .i64 0, .int .u64 0, .string (str []), .slice none 0 0] 150 :: blk bo [.int .i64 0, .int .u64 0, .string (str []), .slice none 0 0] 150 :: F) (fun (x : List Nd × List (List Value) × Value × Nat × Hp) => R.le x.2.2.2.2 ∧ x.1.length ≤ n ∧ Kids x.2.2.2.2 x.1 x.2.1 ∧ x.2.2.2.1 ≤ s.length ∧ rdL (rdM e) n (s.drop f) = (rdL (rdM e) (n - x.1.length) (s.drop x.2.2.2.1)).map (fun p => (x.1 ++ p.1, p.2))) (fun (x : List Nd × List (List Value) × Value × Nat × Hp) => n - x.1.length) ([], [], .slice none 0 0, f, R) (⟨Hp.le_refl R, by simp, ⟨rfl, fun i x cs h _ => by simp at h⟩, hf, by simp⟩) ?_
 rintro ⟨ks, css, v, fr, R1⟩ ⟨hr1, hi, hk, hfr, q1⟩
 try dsimp only
 dsimp only at hr1 hi hk hfr q1
 refine Qd fun K39 hK39 => Qd fun K40 hK40 => Qc (Pm (Pm ?_))
 refine Pa (QO rfl rfl) (Qe (hK40 _ _ _ ?_))
 refine Qm rfl (fun hc106 => ?_) (fun hc106 => ?_)
 try simp only [dx] at hc106
 refine Qj (hK39 _ _ _ (Qd fun K42 hK42 => Qp (Qd fun K43 hK43 => Qc (Pm (Pm (Pm ?_))))))
 refine Pa (YN rfl rfl om_) ?_
 refine Xg 113 rfl (v' := .int .i64 (e : Int)) (by congr 1; omega) ?_
 refine Ra call177 (ih s fr (by omega) hs0 (by unfold big; omega)) ?_
 rintro r R2 L' hR2 ⟨⟨y, cy, z, rfl, hy, hcase⟩, rfl⟩
 obtain ⟨k1, n1, st1, l1, qq1, cap1, rfl, rfl, hb1, hl1⟩ := hy.inv
 try simp only [cB]
 refine Pm ?_
 refine Pa (Qq rfl rfl) ?_
 refine Pa (Qq rfl rfl) ?_
 refine QA (wn0 rfl) rfl zeroValue150 rfl (fun b15 => ?_)
 refine Qu Qw rfl (wn0 rfl) rfl rfl (by (first | (simp [Value.oneCell']; done) | (intro u hu; simp only [List.mem_cons, List.not_mem_nil, or_false] at hu; rcases hu with rfl | rfl | rfl | rfl <;> first | rfl | assumption))) fd_ (by (simp)) rfl ?_
 refine Ps (Qe (hK43 _ _ _ (Qd fun K44 hK44 => Qd fun K45 hK45 => Qc ?_)))
 refine Pm ?_
 refine Pa (QO rfl rfl) (Qe (hK45 _ _ _ ?_))
 refine Qm rfl (fun hc118 => ?_) (fun hc118 => ?_)
 (try simp only [dx] at hc118)
 refine Qd fun K47 hK47 => Qc ?_
 refine Pa (Lb Qw) ?_
 refine Qu Qw rfl (wn0 rfl) rfl rfl (by (first | (simp [Value.oneCell']; done) | (intro u hu; simp only [List.mem_cons, List.not_mem_nil, or_false] at hu; rcases hu with rfl | rfl | rfl | rfl <;> first | rfl | assumption))) fd_ (by (simp)) rfl ?_
 refine Ps (Qe (hK47 _ _ _ ?_))
 refine Ql (eL 6 rfl (eL 7 rfl eN)) ?_
 refine Qi (hret _ _ _ ?_)
 refine Ea results177 (.cons (QN Qw rfl fd_ rfl rfl) (.cons (Qh rfl) .nil)) [] (by first | exact Hp.le_refl _ | exact Hp.le_trans hr1 hR2) ?_
 exact ⟨NAt.none_ (by rcases hcase with h | ⟨e2, h1, h2, h3⟩; rw [hrd, QeX q1 (m' := n - ks.length - 1) (by (try simp at hc106); omega) h.1]; (try simp at hc118); omega), rfl⟩
 (try simp only [dx] at hc118)
 obtain ⟨e2, he2, rfl, hre⟩ : ∃ e : Nat, e ≤ s.length ∧ z = e ∧ rdM _ (s.drop fr) = some (Nd.mk k1 n1 st1 l1, s.drop e) := by rcases hcase with h | h; (try simp at hc118); omega; exact h
 refine Qj (hK44 _ _ _ (Qd fun K48 hK48 => Qc ?_))
 refine Pa (Ga underlying150 sizeOf148) ?_
 refine Pa (La Ys) ?_
 refine Pa (Lb Qw) ?_
 refine Qz (sz := 4) (wn0 rfl) rfl underlying148 sizeOf150 zeroValue150 rfl rfl rfl (by decide) (by decide) (fun b123 => ?_)
 refine XF (sz := 4) (by_ := 56) ⟨underlying148, _, _, rfl, rfl, rfl, rfl, rfl⟩ (wn0 rfl) rfl rfl rfl fd_ (YT underlying148 fd_ (ZU hy)) rfl om_ (by simp only [maxLen]; omega) (fun v124 ho124 hh124 => ?_)
 rw [Qa0 css, Qfe ks (Nd.mk k1 n1 st1 l1)]
 refine Pa (Ga underlying150 sizeOf148) ?_
 refine Sa Ys ?_
 refine Qe (hK48 _ _ _ (Qc (Pm (Ps (Qe (hK42 _ _ _ (Qc (Pm ?_))))))))
 refine Pa (Qt rfl rfl om_) (Ps (Qe ?_))
 refine Xl (q' := QS _ _ _ _ _ _ _) rfl ?_
 refine QC ((ks ++ [Nd.mk k1 n1 st1 l1], css ++ [[.int .i64 k1, .int .u64 ((n1 : Nat) : Int), .string (str st1), .slice qq1 l1.length cap1]], v124, e2, R2)) (⟨Hp.le_trans hr1 hR2, by dsimp only; rw [List.length_append]; (try simp at hc106); simp; omega, (hk.mono hR2).snoc hy, he2, by dsimp only; rw [List.length_append]; exact Qgv q1 (by (try simp at hc106); simp; omega) hre⟩) (by dsimp only; rw [List.length_append]; (try simp at hc106); simp; omega) (eC rfl (eC rfl (eC rfl (eC rfl (eC rfl (eC rfl (eC rfl (Env.le_cons (Eq.trans rfl (congrArg some (by first | rfl | (exact congrArg (Value.int .i64) (by simp))))) eN)))))))) rfl sb_
 try simp only [dx] at hc106
 refine QL (hK37 _ _ _ (Qd fun K49 hK49 => Qc ?_))
 refine Yd (e := 150) (sz := 4) (n := ks.length) (v := v) (xs := css.flatten) fd_ (fun R2 hR2 hfr2 hxl => ?_)
 have hkb : ks.length ≤ big := by unfold big; omega
 obtain ⟨q, cap, rfl, hrl⟩ := (hk.mono hR2).repL hfr2 hkb
 refine Pa (Lb Qw) (Pm ?_)
 refine Qu Qw rfl (wn0 rfl) rfl rfl (by (first | (simp [Value.oneCell']; done) | (intro u hu; simp only [List.mem_cons, List.not_mem_nil, or_false] at hu; rcases hu with rfl | rfl | rfl | rfl <;> first | rfl | assumption))) fd_ (by (simp)) rfl ?_
 refine Ps (Qe (hK49 _ _ _ (Qi (hret _ _ _ ?_))))
 refine Ea results177 (.cons (QN Qw rfl fd_ rfl rfl) (.cons (Qh rfl) .nil)) [] (by first | exact Hp.le_refl _ | exact Hp.le_trans hr1 hR2) ?_
 exact ⟨⟨.mk 2 0 [] ks, _, _, rfl, hrl.node (by simp [big]), .inr ⟨fr, hfr, rfl, by rw [hrd, q1, show n - ks.length = 0 by (try simp at hc106); omega]; simp [rdL]⟩⟩, rfl⟩
 try simp only [dx] at hc101
 refine Qj (hK11 _ _ _ (Qd fun K50 hK50 => Qc ?_))
 refine Pa (Lb Qw) ?_
 refine Qu Qw rfl (wn0 rfl) rfl rfl (by (first | (simp [Value.oneCell']; done) | (intro u hu; simp only [List.mem_cons, List.not_mem_nil, or_false] at hu; rcases hu with rfl | rfl | rfl | rfl <;> first | rfl | assumption))) fd_ (by (simp)) rfl ?_
 refine Ps (Qe (hK50 _ _ _ (Qi (hret _ _ _ ?_))))
 refine Ea results177 (.cons (QN Qw rfl fd_ rfl rfl) (.cons (Qh rfl) .nil)) [] (by first | exact Hp.le_refl _ | exact Hp.le_trans hr1 hR2) ?_
 exact ⟨NAt.none_ (by rw [hu1]; exact QjW hz (by omega) (by omega) (by omega)), rfl⟩
theorem Qiu (d : Nat) : Qbr d := by
 induction d with
 | zero => exact QeN
 | succ e ih => exact QeO e ih
theorem QiJ {s : List UInt8} {y : Nd} {z : Int} (h : (rdM 20 s = none ∧ z = -1 ∧ y = ZH) ∨ ∃ e : Nat, e ≤ s.length ∧ z = e ∧ rdM 20 s = some (y, s.drop e)) (hz : ¬ z = s.length) : Zl s = (ZH, false) := by
 rcases h with ⟨h, _, _⟩ | ⟨e, h1, h2, h3⟩
 ·exact jY fun _ => h
 ·exact Qco (fun _ => h3) (fun he => by have := congrArg List.length he; simp at this; omega)
theorem Qhz {s : List UInt8} {y : Nd} {z : Int} (h : (rdM 20 s = none ∧ z = -1 ∧ y = ZH) ∨ ∃ e : Nat, e ≤ s.length ∧ z = e ∧ rdM 20 s = some (y, s.drop e)) (hl : ¬ s.length > 16777216) (hz : z = s.length) : Zl s = (y, true) := by
 rcases h with ⟨_, h, _⟩ | ⟨e, h1, h2, h3⟩
 ·omega
 ·have : e = s.length := by omega
  subst this
  exact jX hl (by rw [h3]; simp)
theorem Qlz {R : Hp} (s : List UInt8) (hs : s.length ≤ big) : Tri prog 173 [.string (str s)] R []
  (fun r R' L' => ∃ cy, r = .tuple #[.agg ⟨cy⟩, .bool (Zl s).2] ∧ RepN R' (Zl s).1 cy ∧ L' = []) := by
 have hbg : s.length ≤ 1000000000000 := hs
 refine Qn func173 rfl ntmps173 rfl (fun σ F Q hret hend hpan => ?_)
 try simp only [cB]
 refine Qd fun K1 hK1 => Qc ?_
 refine QA (wn0 rfl) rfl zeroValue150 rfl (fun b2 => ?_)
 refine Ps (Qe (hK1 _ _ _ (Qd fun K2 hK2 => Qd fun K3 hK3 => Qc ?_)))
 refine Pm ?_
 refine Pa (Yv underlying9 rfl) ?_
 refine Pa (Xs rfl rfl) (Qe (hK3 _ _ _ ?_))
 refine Qm rfl (fun hc8 => ?_) (fun hc8 => ?_)
 try simp only [dx] at hc8
 refine Qd fun K5 hK5 => Qc ?_
 refine Pa (QV (cells := [_, _, _, _]) [(0, 1), (1, 1), (2, 1), (3, 1)] underlying150 zeroValue150 (fun _ => rfl) rfl rfl) ?_
 refine Qu Qw rfl (wn0 rfl) rfl rfl (by (first | (simp [Value.oneCell']; done) | (intro u hu; simp only [List.mem_cons, List.not_mem_nil, or_false] at hu; rcases hu with rfl | rfl | rfl | rfl <;> first | rfl | assumption))) fd_ (by (simp)) rfl ?_
 refine Ps (Qe (hK5 _ _ _ (Qi (hret _ _ _ ?_))))
 refine Ea results173 (.cons (QN Qw rfl fd_ rfl rfl) (.cons (Qh rfl) .nil)) [] le_ ?_
 rw [jY (fun hl => absurd (show s.length > 16777216 by (try simp at hc8); omega) hl)]; exact ⟨_, rfl, ZZ R, rfl⟩
 try simp only [dx] at hc8
 refine Qj (hK2 _ _ _ (Qd fun K6 hK6 => Qc (Pm ?_)))
 refine Ra call177 (Qiu 20 s 0 (by decide) hs (by decide)) ?_
 rintro r R' L' hR ⟨⟨y, cy, z, rfl, hy, hcase⟩, rfl⟩
 obtain ⟨k1, n1, st1, l1, qq1, cap1, rfl, rfl, hb1, hl1⟩ := hy.inv
 rw [List.drop_zero] at hcase
 try simp only [cB]
 refine Pm ?_
 refine Pa (Qq rfl rfl) ?_
 refine Pa (Qq rfl rfl) ?_
 refine QA (wn0 rfl) rfl zeroValue150 rfl (fun b4 => ?_)
 refine Qu Qw rfl (wn0 rfl) rfl rfl (by (first | (simp [Value.oneCell']; done) | (intro u hu; simp only [List.mem_cons, List.not_mem_nil, or_false] at hu; rcases hu with rfl | rfl | rfl | rfl <;> first | rfl | assumption))) fd_ (by (simp)) rfl ?_
 refine Ps (Qe (hK6 _ _ _ (Qd fun K7 hK7 => Qd fun K8 hK8 => Qc ?_)))
 refine Pm (Pm ?_)
 refine Pa (Yv underlying9 rfl) ?_
 refine Pa (XU rfl rfl) (Qe (hK8 _ _ _ ?_))
 refine Qm rfl (fun hc18 => ?_) (fun hc18 => ?_)
 try simp only [dx] at hc18
 refine Qd fun K10 hK10 => Qc ?_
 refine Pa (QV (cells := [_, _, _, _]) [(0, 1), (1, 1), (2, 1), (3, 1)] underlying150 zeroValue150 (fun _ => rfl) rfl rfl) ?_
 refine Qu Qw rfl (wn0 rfl) rfl rfl (by (first | (simp [Value.oneCell']; done) | (intro u hu; simp only [List.mem_cons, List.not_mem_nil, or_false] at hu; rcases hu with rfl | rfl | rfl | rfl <;> first | rfl | assumption))) fd_ (by (simp)) rfl ?_
 refine Ps (Qe (hK10 _ _ _ (Qi (hret _ _ _ ?_))))
 refine Ea results173 (.cons (QN Qw rfl fd_ rfl rfl) (.cons (Qh rfl) .nil)) [] le_ ?_
 rw [QiJ hcase (by (try simp at hc18); omega)]; exact ⟨_, rfl, ZZ R', rfl⟩
 try simp only [dx] at hc18
 refine Qj (hK7 _ _ _ (Qd fun K11 hK11 => Qc ?_))
 refine Pa (Lb Qw) ?_
 refine Qu Qw rfl (wn0 rfl) rfl rfl (by (first | (simp [Value.oneCell']; done) | (intro u hu; simp only [List.mem_cons, List.not_mem_nil, or_false] at hu; rcases hu with rfl | rfl | rfl | rfl <;> first | rfl | assumption))) fd_ (by (simp)) rfl ?_
 refine Ps (Qe (hK11 _ _ _ ?_))
 refine Ql (eL 2 rfl (eL 3 rfl eN)) ?_
 refine Qi (hret _ _ _ ?_)
 refine Ea results173 (.cons (QN Qw rfl fd_ rfl rfl) (.cons (Qh rfl) .nil)) [] le_ ?_
 rw [Qhz hcase (by (try simp at hc8); omega) (by (try simp at hc18); omega)]; exact ⟨_, rfl, hy, rfl⟩
def gA (As : List Asn) : Asn := fun h => stars As h
def Yn (l : List (List Asn)) : Asn := gA (l.map gA)
theorem Qko {l : List (List Asn)} {i : Nat} {As : List Asn} (h : l[i]? = some As) : Find (gA As) (l.map gA) ((l.eraseIdx i).map gA) := by
 induction l generalizing i with
 | nil => simp at h
 | cons B l ih =>
  cases i with
  | zero => simp at h; subst h; exact .head _
  | succ i => exact .tail (ih (by simpa using h))
theorem Qkn {l : List (List Asn)} {i : Nat} (hi : i < l.length) (As : List Asn) : Find (gA As) ((l.set i As).map gA) ((l.eraseIdx i).map gA) := by
 induction l generalizing i with
 | nil => simp at hi
 | cons B l ih =>
  cases i with
  | zero => exact .head _
  | succ i => exact .tail (ih (by simpa using hi))
theorem Qca {l : List (List Asn)} {i : Nat} {As : List Asn} (h : l[i]? = some As) (g : Hp) (k : Yn l g) : stars [gA As, Yn (l.eraseIdx i)] g := by
 obtain ⟨h1, h2, a, b, c, d, e⟩ := (Qko h).stars (h := g) k
 exact ⟨h1, h2, a, b, c, d, h2, Hp.emp, Hp.le_refl _, (fun _ _ k => by cases k), (fun _ => .inr rfl), e, trivial⟩
theorem Qmt {l : List (List Asn)} {i : Nat} (hi : i < l.length) {As : List Asn} (g : Hp) (k : stars [gA As, Yn (l.eraseIdx i)] g) : Yn (l.set i As) g := by
 obtain ⟨h1, h2, a, b, c, d, k1, _, a2, _, _, d2, _⟩ := k
 exact (Qkn hi As).back ⟨h1, k1, a, Hp.le_trans a2 b, Hp.dis_le c a2, d, d2⟩
section
variable {c : Cx} {ops : Array Oper} {Q : Exit → Act → World → Prop} {E : Env} {R : Hp} {L M : List Asn} {rest : List Oper} {ty : TypeId} {p : String} {af : Array Edge} {g : Option (Nat × Bool)}
theorem Sat.bigIn {σ : World} {w : World} {l : List (List Asn)} {i : Nat} {As : List Asn} (hi : i < l.length) (hS : Sub L (As ++ Yn (l.eraseIdx i) :: M)) (hs : Sat σ R L w) : Sat σ R (Yn (l.set i As) :: M) w :=
 Sat.join (A := Yn (l.set i As)) (As := [gA As, Yn (l.eraseIdx i)]) (Qmt hi) (Sat.join (A := gA As) (As := As) (fun _ k => k) (hs.sub hS))
theorem Qhm {a : Act} {w : World} {d : Option Tmp} {f : FuncId} {x : Operand} {nm : String} {xs : List Operand} {ts : Array TypeId} {t : TypeId} {v r : Value} {vs : List Value} (hx : a.eval x = .iface t v) (hm : ∀ w, (method (c.P.types.size + Made.depth) t v nm).run c.P w = .ok (f, r) w) (hc : ∀ args w, (callFunc f args).run c.P w = .ok (.enter f args) w)
  (hv : xs.map a.eval = vs) : (execOp a.eval ⟨d, .call { callee := .invoke x nm, args := ⟨xs⟩, argTypes := ts }, ty, p, af, g⟩).run c.P w = .ok (.enter f ⟨r :: vs⟩) w := by
 have e : (Array.mk xs).map a.eval = ⟨vs⟩ := by rw [← hv]; simp
 have e2 : (#[Value.iface t v] ++ (⟨vs⟩ : Array Value)).extract 1 (#[Value.iface t v] ++ (⟨vs⟩ : Array Value)).size = ⟨vs⟩ := by
  apply Array.ext'
  simp
 have e3 : (#[Value.iface t v] ++ (⟨vs⟩ : Array Value))[0]? = some (.iface t v) := by simp
 simp only [execOp, resolve, hx, e, invoke, Sem.run_bind, Sem.run_pure, Result.andThen, e3, e2, callMethod]
 simp [hm w, hc, Sem.run_bind, Result.andThen]
theorem zQ {d : Nat} {f : FuncId} {x : Operand} {nm : String} {xs : List Operand} {ts : Array TypeId} {t : TypeId} {v0 r : Value} {vs : List Value} {pre F : List Asn} {post : Value → Hp → List Asn → Prop} {pan : List PanicEntry → Hp → List Asn → Prop}
  (hw : Wn c ops E ⟨some d, .call { callee := .invoke x nm, args := ⟨xs⟩, argTypes := ts }, ty, p, af, g⟩ true) (hn : Nat.blt d c.n = true) (hx : ev E x = some (.iface t v0)) (hm : ∀ w, (method (c.P.types.size + Made.depth) t v0 nm).run c.P w = .ok (f, r) w) (hc : ∀ args w, (callFunc f args).run c.P w = .ok (.enter f args) w)
  (hv : evs E xs = some vs) (ht : Tri c.P f (r :: vs) R pre post pan) (hs : Split L pre F)
  (hp : ∀ ch R' L', R.le R' → pan ch R' L' → EJ c (Q (.panic ch)) E R' (L' ++ F))
  (h : ∀ v R' L', R.le R' → post v R' L' → RJ c ops Q rest ((d, v) :: E) R' (L' ++ F)) :
  RJ c ops Q (⟨some d, .call { callee := .invoke x nm, args := ⟨xs⟩, argTypes := ts }, ty, p, af, g⟩ :: rest) E R L := by
 intro a w hf hsat
 unfold wpList
 rw [if_pos (hw a hf)]
 refine .inl ?_
 unfold Oper.wp
 rw [Qhm (hf.ev hx) hm hc (hf.evs hv)]
 simp only [Oper.upon]
 refine (ht _ _ _ (hs.sat hsat)).mono fun e w' ⟨R', L', hR, hw', hpost⟩ => ?_
 cases e with
 | returned v => exact h v R' L' hR hpost _ _ (hf.put hn v) hw'
 | panicked ch => exact hp ch R' L' hR hpost _ _ hf hw'
 | outgrown => exact hpost.elim
end
def stN (l : List Bs) : Nd := .mk 2 0 [] (l.map Zh)
def stB (l : List Bs) : Bs := wr (stN l)
def unS (s : Bs) : List Bs := (Zl s).1.kids.map Nd.s
def za (b : Bs) (rs : List Rec) (p : Bs) (g : LG) : Prop := b = QZ rs ++ p ∧ ZL p ∧ Plays LG.new rs g
noncomputable def Qaz (b : Bs) : List Rec := open Classical in if h : ∃ rs p g, za b rs p g then h.choose else []
noncomputable def QaA (b : Bs) : Bs := open Classical in if h : ∃ rs p g, za b rs p g then h.choose_spec.choose else []
noncomputable def QaB (b : Bs) : LG := open Classical in if h : ∃ rs p g, za b rs p g then h.choose_spec.choose_spec.choose else LG.new
theorem Qet {b : Bs} (h : ∃ rs p g, za b rs p g) : za b (Qaz b) (QaA b) (QaB b) := by
 unfold Qaz QaA QaB
 rw [dif_pos h, dif_pos h, dif_pos h]
 exact h.choose_spec.choose_spec.choose_spec
theorem QlD {g h : LG} {r r' : Rec} {t t' : Bs} (hr : r.may g) (hg : g.ok) (hl : (wr r.nd).length ≤ 16777216) (hr' : r'.may h) (hh : h.ok) (hl' : (wr r'.nd).length ≤ 16777216) (e : r.bytes ++ t = r'.bytes ++ t') : r.nd = r'.nd ∧ t = t' := by
 have h1 : yl (r.bytes ++ t) = (wr r.nd).length := by unfold Rec.bytes; rw [List.append_assoc]; exact Qbo (by omega) _
 have h2 : yl (r'.bytes ++ t') = (wr r'.nd).length := by unfold Rec.bytes; rw [List.append_assoc]; exact Qbo (by omega) _
 have h3 : (wr r.nd).length = (wr r'.nd).length := by rw [← h1, ← h2, e]
 have h4 : r.bytes.length = r'.bytes.length := by unfold Rec.bytes; rw [List.length_append, List.length_append, Yy, Yy, h3]
 obtain ⟨h5, h6⟩ := List.append_inj e h4
 have h7 : wr r.nd = wr r'.nd := by
  unfold Rec.bytes at h5
  exact (List.append_inj h5 (by rw [Yy, Yy])).2
 have h8 := Rec.read hr hg hl
 have h9 := Rec.read hr' hh hl'
 rw [h7, h9] at h8
 exact ⟨(Prod.mk.inj h8).1.symm, h6⟩
theorem ZB {a b : Nat} (h : Yi a = Yi b) : a = b := by unfold Yi at h; injection h
theorem QeA {a b : Bs} (h : Zh a = Zh b) : a = b := by unfold Zh at h; injection h
theorem Qfs : ∀ {l m : List Ent}, (∀ e ∈ l, QM e.1) → (∀ e ∈ m, QM e.1) → l.map YW = m.map YW → l = m
 | [], [], _, _, _ => rfl
 | [], _ :: _, _, _, h => by simp at h
 | _ :: _, [], _, _, h => by simp at h
 | (a, s) :: l, (b, t) :: m, hl, hm, h => by
  simp only [List.map_cons, List.cons.injEq] at h
  obtain ⟨h1, h2⟩ := h
  unfold YW at h1
  injection h1 with _ _ _ h3
  simp only [List.cons.injEq, and_true] at h3
  have h4 := ZB h3.1
  have h5 := QeA h3.2
  have h6 := hl (a, s) (by simp)
  have h7 := hm (b, t) (by simp)
  unfold QM at h6 h7
  dsimp only at h4 h5 h6 h7
  have h8 : a = b := by omega
  rw [h8, h5, Qfs (fun e he => hl e (by simp [he])) (fun e he => hm e (by simp [he])) h2]
theorem QdJ {l m : List Ent} (hl : ∀ e ∈ l, QM e.1) (hm : ∀ e ∈ m, QM e.1) (h : Zm l = Zm m) : l = m := by
 unfold Zm at h; injection h with _ _ _ h2; exact Qfs hl hm h2
theorem QjV {g : LG} {r r' : Rec} (hr : r.may g) (hr' : r'.may g) (hg : g.ok) (e : r.nd = r'.nd) : g.play r = g.play r' := by
 unfold Rec.nd at e
 injection e with _ _ _ e
 cases r <;> cases r' <;> simp only [Rec.kids, List.cons.injEq, and_true, List.cons_ne_nil, List.nil_eq, reduceCtorEq, and_false] at e
 ·rename_i t v t' v'
  obtain ⟨_, e1, e2⟩ := e
  have e1 := ZB e1
  have e2 := ZB e2
  obtain ⟨a1, a2⟩ := hr
  obtain ⟨b1, b2⟩ := hr'
  unfold QM at a1 b1
  obtain ⟨rfl, rfl⟩ : t = t' ∧ v = v' := by omega
  rfl
 ·exact absurd (ZB e.1) (by decide)
 ·exact absurd (ZB e.1) (by decide)
 ·rename_i b m b' m'
  obtain ⟨_, e1, e2⟩ := e
  have e1 := ZB e1
  obtain ⟨a1, a2, _⟩ := hr
  obtain ⟨b1, b2, _⟩ := hr'
  have hb := hg.base
  obtain rfl : b = b' := by omega
  rw [QdJ (fun e he => (a2 e he).1) (fun e he => (b2 e he).1) e2]
 ·rename_i h h'
  obtain ⟨_, e1, e2, e3, e4, e5, e6⟩ := e
  have e1 := ZB e1
  have e2 := ZB e2
  have e3 := ZB e3
  have e4 := ZB e4
  have f5 := QeA e5
  have hk : h.ok := hr
  have hk' : h'.ok := hr'
  have f6 := QdJ (fun e he => (hk.all e he).1) (fun e he => (hk'.all e he).1) e6
  have a1 := hk.term
  have a2 := hk.vote
  have a3 := hk.base
  have a4 := hk.baseT
  have b1 := hk'.term
  have b2 := hk'.vote
  have b3 := hk'.base
  have b4 := hk'.baseT
  unfold QM at a1 a4 b1 b4
  show ({ h with down := g.down } : LG) = { h' with down := g.down }
  have c1 : h.term = h'.term := by omega
  have c2 : h.vote = h'.vote := by omega
  have c3 : h.base = h'.base := by omega
  have c4 : h.baseT = h'.baseT := by omega
  rw [c1, c2, c3, c4, f5, f6]
theorem Qgk {r : Rec} {t : Bs} (hl : (wr r.nd).length ≤ 16777216) : ¬ ZL (r.bytes ++ t) := by
 unfold ZL
 have h1 : yl (r.bytes ++ t) = (wr r.nd).length := by unfold Rec.bytes; rw [List.append_assoc]; exact Qbo (by omega) _
 have h2 : (r.bytes ++ t).length = 4 + (wr r.nd).length + t.length := by unfold Rec.bytes; simp [Yy]; omega
 rw [h1, h2]
 omega
theorem QdE : ∀ {rs rs' : List Rec} {g0 g h : LG} {p p' : Bs}, QZ rs ++ p = QZ rs' ++ p' → ZL p → ZL p' → Plays g0 rs g → Plays g0 rs' h → QZ rs = QZ rs' ∧ p = p' ∧ g = h
 | [], [], g0, g, h, p, p', e, _, _, hg, hh => by
  cases hg; cases hh
  exact ⟨rfl, by simpa [QZ] using e, rfl⟩
 | [], r :: rs', g0, g, h, p, p', e, hp, _, _, hh => by
  cases hh with
  | cons a b c d =>
   rw [Zx, List.append_assoc] at e
   have e : p = r.bytes ++ (QZ rs' ++ p') := by simpa [QZ] using e
   exact absurd (e ▸ hp) (Qgk c)
 | r :: rs, [], g0, g, h, p, p', e, _, hp, hg, _ => by
  cases hg with
  | cons a b c d =>
   rw [Zx, List.append_assoc] at e
   have e : p' = r.bytes ++ (QZ rs ++ p) := by simpa [QZ] using e.symm
   exact absurd (e ▸ hp) (Qgk c)
 | r :: rs, r' :: rs', g0, g, h, p, p', e, hp, hp', hg, hh => by
  cases hg with
  | cons a b c d =>
   cases hh with
   | cons a' b' c' d' =>
    rw [Zx, Zx, List.append_assoc, List.append_assoc] at e
    obtain ⟨e1, e2⟩ := QlD b a c b' a' c' e
    have e3 : wr r.nd = wr r'.nd := by rw [e1]
    rw [← QjV b b' a e1] at d'
    obtain ⟨k1, k2, k3⟩ := QdE e2 hp hp' d d'
    refine ⟨?_, k2, k3⟩
    rw [Zx, Zx, k1]
    unfold Rec.bytes
    rw [e3]
theorem Qii {b : Bs} {rs : List Rec} {p : Bs} {g : LG} (h : za b rs p g) : QZ (Qaz b) = QZ rs ∧ QaA b = p ∧ QaB b = g := by
 obtain ⟨a1, a2, a3⟩ := Qet ⟨rs, p, g, h⟩
 obtain ⟨b1, b2, b3⟩ := h
 exact QdE (a1.symm.trans b1) a2 b2 a3 b3
structure OC where
 node : Int
 index : Int
 term : Int
 out : Bs
structure MS where
 x : ND
 D : DK
 l : List Bs
 ap : Int
structure GS where
 ms : List MS
 st : List YM
 last : Int
 out : List OC
def jK (k : Nat) : Bs := [UInt8.ofNat (k / 256 % 256), UInt8.ofNat (k % 256)]
def MS.todo (m : MS) : List Ent := (m.x.g.all.drop (m.ap - m.x.g.base).toNat).take (m.x.commit - m.ap).toNat
def MS.rest (m : MS) : MS := if m.x.g.base > m.ap then { m with l := unS m.x.g.state, ap := m.x.g.base } else m
def XI (i : Int) (r : MS × List OC) (e : Ent) : MS × List OC :=
 if e.2 = [] then ({ r.1 with ap := r.1.ap + 1 }, r.2) else ({ r.1 with ap := r.1.ap + 1, l := r.1.l ++ [e.2] }, r.2 ++ [⟨i, r.1.ap + 1, e.1, jK (r.1.l.length + 1)⟩])
def MS.dn (m : MS) : Bool := Xm (m.x, m.D)
def Xh (i : Int) (m : MS) (o : List OC) : MS × List OC := if m.dn = true then (m, o) else m.rest.todo.foldl (XI i) (m.rest, o)
def GS.done (G : GS) (i : Nat) (m : MS) (l : List Msg) : GS := ⟨G.ms.set i (Xh i m G.out).1, G.st ++ XN G.last l, G.last + l.length, (Xh i m G.out).2⟩
def MS.act (m : MS) (r : List Msg × NS) : MS × List Msg := ({ m with x := r.2.1.q, D := r.2.2 }, r.1)
def MS.tick (m : MS) : MS × List Msg := m.act (Xn (m.x, m.D) tickN)
def MS.recv (m : MS) (g : Msg) : MS × List Msg := m.act (Xn (m.x, m.D) (fun s => Xk s g))
def MS.prop (m : MS) (c : Bs) : (Int × Int) × (MS × List Msg) := (((Xz (m.x, m.D) c).1.1, (Xz (m.x, m.D) c).1.2.1), m.act ((Xz (m.x, m.D) c).1.2.2, (Xz (m.x, m.D) c).2))
def MS.comp (m : MS) : Int × MS := ((Ym (m.x, m.D) m.ap (stB m.l)).1, { m with x := (Ym (m.x, m.D) m.ap (stB m.l)).2.1.q, D := (Ym (m.x, m.D) m.ap (stB m.l)).2.2 })
def GS.tick (G : GS) (i : Nat) : GS := match G.ms[i]? with
 | none => G
 | some m => G.done i m.tick.1 m.tick.2
def GS.take (G : GS) (k : Int) : GS := { G with st := Zn G.st k }
def GS.deliver (G : GS) (k : Int) : GS :=
 if XR G.st k = true then
  if 0 ≤ (atM G.st k).2.to then match G.ms[(atM G.st k).2.to.toNat]? with
   | none => G.take k
   | some m => (G.take k).done (atM G.st k).2.to.toNat (m.recv (atM G.st k).2).1 (m.recv (atM G.st k).2).2
  else G.take k
 else G
def GS.propose (G : GS) (i : Nat) (c : Bs) : (Int × Int) × GS := match G.ms[i]? with
 | none => ((0, 0), G)
 | some m => ((m.prop c).1, G.done i (m.prop c).2.1 (m.prop c).2.2)
def GS.compact (G : GS) (i : Nat) : Int × GS := match G.ms[i]? with
 | none => (1, G)
 | some m => (m.comp.1, { G with ms := G.ms.set i m.comp.2 })
def GS.fuel (G : GS) (i : Nat) (n : Int) : GS := match G.ms[i]? with
 | none => G
 | some m => { G with ms := G.ms.set i { m with D := m.D.setFuel n } }
def YF (i n : Nat) (g : LG) (D : DK) : MS := if g.base > 0 then ⟨ND.start i n g, D, unS g.state, g.base⟩ else ⟨ND.start i n g, D, [], 0⟩
noncomputable def MS.crash (m : MS) (i n : Nat) (keep : Int) : MS := YF i n (QaB (m.D.crash keep).b) ((m.D.crash keep).open (Qaz (m.D.crash keep).b) (QaA (m.D.crash keep).b)).2
noncomputable def GS.crash (G : GS) (i : Nat) (keep : Int) : GS := match G.ms[i]? with
 | none => G
 | some m => { G with ms := G.ms.set i (m.crash i G.ms.length keep) }
def GS.new (n : Nat) : GS := ⟨(List.range n).map fun i => YF i n LG.new DK.new, [], 0, []⟩
structure MW (m : MS) : Prop where
 up : ¬ m.dn = true → NIn 0 m.x
 out : m.x.out = []
 ok : m.D.ok 690000000
 l : m.l.length ≤ 9500 ∧ ∀ s ∈ m.l, s.length ≤ 100
 ap : 0 ≤ m.ap ∧ m.ap ≤ 150000000000000
structure GW (G : GS) : Prop where
 n : G.ms.length ≤ 9
 ms : ∀ m ∈ G.ms, MW m
 st : G.st.length ≤ 900000
 last : 0 ≤ G.last ∧ G.last ≤ 900000
 msg : ∀ x ∈ G.st, MIm 0 x.2 ∧ qz x.2
 out : G.out.length ≤ 900000000
def bsV (l : List Bs) : List Value := l.map fun s => Value.string (str s)
theorem QfG (l : List Bs) (s : Bs) : bsV l ++ [Value.string (str s)] = bsV (l ++ [s]) := by simp [bsV]
@[reducible] def lsB (b : Nat) (v : Value) : Asn := blk b [v] 105
@[reducible] def lsS (v : Value) (l : List Bs) : Asn := slc 9 1 v l.length (bsV l)
theorem Qog (n : Nat) : IntKind.u8.wrap ((n : Int).fdiv (2 ^ min (8 : Int).toNat IntKind.i64.bits)) = ((UInt8.ofNat (n / 256 % 256)).toNat : Int) ∧ IntKind.u8.wrap (n : Int) = ((UInt8.ofNat (n % 256)).toNat : Int) := by
 refine ⟨?_, ?_⟩
 ·rw [qp n 8 8 rfl (by decide), jP]
 ·rw [jP]
theorem Qmx {R : Hp} (b : Nat) (v : Value) (l : List Bs) (c : Bs) (hl : l.length ≤ 200000) : Tri prog 170 [.pointer (some ⟨b, 0, none⟩), .string (str c)] R [lsB b v, lsS v l]
  (fun r R' L' => R = R' ∧ r = .string (str (jK (l.length + 1))) ∧ ∃ v', L' = [lsB b v', lsS v' (l ++ [c])]) := by
 obtain ⟨g1, g2⟩ := Qog (l.length + 1)
 refine Qn func170 rfl ntmps170 rfl (fun σ F Q hret hend hpan => ?_)
 try simp only [cB]
 refine Qd fun K1 hK1 => Qc (Ps (Qe (hK1 _ _ _ (Qd fun K2 hK2 => Qc ?_))))
 refine Pm (Pm ?_)
 refine Pa (Qf rfl) ?_
 refine Pa (Ga underlying105 sizeOf42) ?_
 refine Pa (La o42) (Pm ?_)
 refine Qz (sz := 1) (wn0 rfl) rfl underlying42 sizeOf9 zeroValue9 rfl rfl rfl (by decide) (by decide) (fun bz => ?_)
 refine XF (sz := 1) (by_ := 16) ⟨underlying42, _, _, rfl, rfl, rfl, rfl, rfl⟩ (wn0 rfl) rfl rfl rfl fd_ (YT (xs := [.string (str c)]) underlying42 fd_ (by (first | (simp [Value.oneCell']; done) | (intro u hu; simp only [List.mem_cons, List.not_mem_nil, or_false] at hu; rcases hu with rfl | rfl | rfl | rfl <;> first | rfl | assumption)))) rfl om_ (by simp only [maxLen]; omega) (fun v12 ho12 hh12 => ?_)
 rw [QfG]
 rw [show l.length + 1 = (l ++ [c]).length by simp]
 refine Pa (Qf rfl) ?_
 refine Pa (Ga underlying105 sizeOf42) ?_
 refine Sa o42 ?_
 refine Qe (hK2 _ _ _ (Qd fun K3 hK3 => ?_))
 refine jL [0, 1, 2, 3, 4, 5, 6, 7, 8, 9, 10, 11, 12] [] [13, 14, 15] (by kernel_rfl) (by kernel_rfl) (by kernel_rfl) rfl ?_
 refine Wa rfl (fun R1 hR1 G => (Qg rfl)) ?_
 refine Wa rfl (fun R1 hR1 G => (Qf rfl)) ?_
 refine Wa rfl (fun R1 hR1 G => (Ga underlying105 sizeOf42)) ?_
 refine Wa rfl (fun R1 hR1 G => (La o42)) ?_
 refine Wa rfl (fun R1 hR1 G => (YE underlying42 rfl fd_)) ?_
 refine Wa rfl (fun R1 hR1 G => (yR rfl rfl (by decide))) ?_
 refine Wa rfl (fun R1 hR1 G => (Yld.to (u := .int .u8 ((UInt8.ofNat ((l.length + 1) / 256 % 256)).toNat : Int)) (qW underlying3 underlying5 rfl) (congrArg (Value.int .u8) (by rw [List.length_append]; exact g1)))) ?_
 refine Wa rfl (fun R1 hR1 G => (Qg rfl)) ?_
 refine Wa rfl (fun R1 hR1 G => (Qf rfl)) ?_
 refine Wa rfl (fun R1 hR1 G => (Ga underlying105 sizeOf42)) ?_
 refine Wa rfl (fun R1 hR1 G => (La o42)) ?_
 refine Wa rfl (fun R1 hR1 G => (YE underlying42 rfl fd_)) ?_
 refine Wa rfl (fun R1 hR1 G => (Yld.to (u := .int .u8 ((UInt8.ofNat ((l.length + 1) % 256)).toNat : Int)) (qW underlying3 underlying5 rfl) (congrArg (Value.int .u8) (by rw [List.length_append]; exact g2)))) ?_
 refine Xc ?_
 refine Xe ?_
 try simp only [cC]
 refine Qz (sz := 1) (wn0 rfl) rfl underlying123 sizeOf5 zeroValue5 rfl rfl rfl (by decide) (by decide) (fun by2 => ?_)
 refine Xu (A := slc 5 1 (.slice (some ⟨by2, 0, none⟩) 2 2) 2 _) (B := slc 5 1 (.slice (some ⟨by2, 0, none⟩) 2 2) (jK (l.length + 1)).length (Xy (jK (l.length + 1)))) fd_ (fun h hh => hh) ?_
 refine Pa (qN underlying123 underlying5 underlying9 rfl fd_) (Ps (Qe (hK3 _ _ _ ?_)))
 refine Ql (eL 4 rfl eN) ?_
 refine Qi (hret _ _ _ ?_)
 refine Ea results170 (.cons (Qh rfl) .nil) [lsB b v12, lsS v12 (l ++ [c])] le_ ?_
 exact ⟨rfl, rfl, _, rfl⟩
theorem QnD {R : Hp} (s : Bs) : QTri prog 174 [.string (str s)] R [] (.agg ⟨[.int .i64 1, .int .u64 0, .string (str s), .slice none 0 0]⟩) := by
 refine Tri.q2 ?_
 refine Qn func174 rfl ntmps174 rfl (fun σ F Q hret hend hpan => ?_)
 try simp only [cB]
 refine Qd fun K1 hK1 => Qc ?_
 refine QA (wn0 rfl) rfl zeroValue150 rfl (fun b2 => ?_)
 refine Qe (hK1 _ _ _ (Qd fun K2 hK2 => Qc (Pm ?_)))
 refine Pa (QV (cells := [_, _, _, _]) [(0, 1), (1, 1), (2, 1), (3, 1)] underlying150 zeroValue150 (fun _ => rfl) rfl rfl) ?_
 refine Qu Qw rfl (wn0 rfl) rfl rfl (by (first | (simp [Value.oneCell']; done) | (intro u hu; simp only [List.mem_cons, List.not_mem_nil, or_false] at hu; rcases hu with rfl | rfl | rfl | rfl <;> first | rfl | assumption))) fd_ (by (simp)) rfl ?_
 refine Qe (hK2 _ _ _ (Qi (hret _ _ _ ?_)))
 refine Ea results174 (.cons (QN Qw rfl fd_ rfl rfl) .nil) [] le_ ?_
 exact ⟨rfl, rfl⟩
theorem QnE {R : Hp} (v : Value) (hv : v.oneCell' = true) : QTri prog 176 [v] R [] (.agg ⟨[.int .i64 2, .int .u64 0, .string (str []), v]⟩) := by
 refine Tri.q2 ?_
 refine Qn func176 rfl ntmps176 rfl (fun σ F Q hret hend hpan => ?_)
 try simp only [cB]
 refine Qd fun K1 hK1 => Qc ?_
 refine QA (wn0 rfl) rfl zeroValue150 rfl (fun b2 => ?_)
 refine Qe (hK1 _ _ _ (Qd fun K2 hK2 => Qc (Pm ?_)))
 refine Pa ((QV (cells := [.int .i64 2, .int .u64 0, .string (str []), v]) [(0, 1), (1, 1), (2, 1), (3, 1)] underlying150 zeroValue150 (fun _ => rfl) rfl (by cases v <;> first | rfl | (simp [Value.oneCell'] at hv)))) ?_
 refine Qu Qw rfl (wn0 rfl) rfl rfl (by (first | (simp [Value.oneCell']; done) | (intro u hu; simp only [List.mem_cons, List.not_mem_nil, or_false] at hu; rcases hu with rfl | rfl | rfl | rfl <;> first | rfl | assumption))) fd_ (by (simp)) rfl ?_
 refine Qe (hK2 _ _ _ (Qi (hret _ _ _ ?_)))
 refine Ea results176 (.cons (QN Qw rfl fd_ rfl rfl) .nil) [] le_ ?_
 exact ⟨rfl, rfl⟩
@[reducible] def jb (s : Bs) : List Value := [.int .i64 1, .int .u64 0, .string (str s), .slice none 0 0]
theorem Qlk (R : Hp) {s : Bs} (h : s.length ≤ 1000000) : RepN R (Zh s) (jb s) := RepL.node (k := 1) (n := 0) (s := s) (by unfold big; omega) (RepL.nil R)
theorem Qin (R : Hp) {l : List Bs} (h : ∀ s ∈ l, s.length ≤ 100) : Kids R (l.map Zh) (l.map jb) := by
 refine ⟨by simp, fun i x cs hx hc => ?_⟩
 rw [List.getElem?_map] at hx hc
 cases hs : l[i]? with
 | none => rw [hs] at hx; cases hx
 | some s =>
  rw [hs] at hx hc
  cases hx; cases hc
  exact Qlk R (by have := h s (List.mem_of_getElem? hs); omega)
theorem Qio (l : List Bs) : OkN (stN l) := .mk (by decide) (fun x hx => by
 obtain ⟨s, _, rfl⟩ := List.mem_map.1 hx
 exact Qgn s)
theorem QaE (l : List Bs) : Xf 20 (stN l) = true := by
 simp only [stN, Xf, List.all_map]
 simp [Zh, Xf, Function.comp_def]
theorem QhZ (l : List Bs) : ZD (stN l) ≤ 20 := by
 have h := Qbz 20 (stN l)
 rw [QaE] at h
 simp at h
 exact h.1
theorem Qjv {l : List Bs} (h : (wr (stN l)).length ≤ 16777216) : Yk (stN l) = (stB l, true) := by
 unfold Yk
 rw [if_pos ⟨QaE l, h⟩]; rfl
theorem Qej : ∀ {l : List Bs}, (∀ s ∈ l, s.length ≤ 100) → (wrs (l.map Zh)).length ≤ 104 * l.length
 | [], _ => by simp [wrs]
 | s :: l, h => by
  have h1 := Qel (s := s) (by have := h s (by simp); omega)
  have h2 := h s (by simp)
  have h3 := Qej (l := l) (fun t ht => h t (by simp [ht]))
  simp only [List.map_cons, wrs, List.length_append, List.length_cons]
  omega
theorem zf {l : List Bs} (h : ∀ s ∈ l, s.length ≤ 100) (hl : l.length ≤ 100000) : (stB l).length ≤ 10 + 104 * l.length := by
 have h1 := Qej h
 have h2 := Za 2 (l.map Zh).length (by simp; omega)
 unfold stB stN
 rw [wr, if_neg (by decide), if_neg (by decide)]
 simp only [List.length_append, List.length_cons]
 omega
theorem Qgi {l : List Bs} (h : ∀ s ∈ l, s.length ≤ 100) (hl : l.length ≤ 100000) : unS (stB l) = l := by
 have h1 := zf h hl
 have h2 := QeW (x := stN l) (Qio l) (QaE l) (by unfold stB at h1; omega)
 unfold unS
 rw [show stB l = wr (stN l) from rfl, h2]
 show (l.map Zh).map Nd.s = l
 rw [List.map_map]
 exact List.map_id _
theorem Qim (l : List Bs) {i : Nat} {s : Bs} (hs : l[i]? = some s) : ((l.take i).map jb).flatten ++ jb s = ((l.take (i + 1)).map jb).flatten := by
 rw [List.take_add_one, hs]; simp
theorem Qll {R : Hp} (b : Nat) (v : Value) (l : List Bs) (h : ∀ s ∈ l, s.length ≤ 100) (hl : l.length ≤ 100000) : Tri prog 172 [.pointer (some ⟨b, 0, none⟩)] R [lsB b v, lsS v l]
  (fun r R' L' => r = .string (str (stB l)) ∧ L' = [lsB b v, lsS v l]) := by
 refine Qn func172 rfl ntmps172 rfl (fun σ F Q hret hend hpan => ?_)
 try simp only [cB]
 refine qT (A := lsS v l) fd_ qo (fun hvo => ?_)
 refine Qd fun K1 hK1 => Qc (Ps (Qe (hK1 _ _ _ (Qd fun K2 hK2 => Qc ?_))))
 refine Ps ?_
 refine YR (A := slc 150 4 (.slice none 0 0) 0 []) (Yr _ _) ?_
 refine Qe (hK2 _ _ _ (Qd fun K3 hK3 => Qd fun K4 hK4 => Qc (Pm ?_)))
 refine Pa (Qf rfl) ?_
 refine Pa (Ga underlying105 sizeOf42) ?_
 refine Pa (La o42) ?_
 refine Pa (YE underlying42 rfl fd_) (Pm (Qe (hK4 _ _ _ (Qp ?_))))
 refine Ql (E' := (fun (x : Nat × Value) => [(3, x.2), (11, v), (12, .int .i64 (l.length : Int)), (13, .int .i64 (x.1 : Int))]) (0, .slice none 0 0)) (eC rfl (eC rfl (eC rfl (eC rfl eN)))) ?_
 refine Xi (M := (fun (x : Nat × Value) => slc 150 4 x.2 x.1 ((l.take x.1).map jb).flatten :: lsB b v :: lsS v l :: F) (0, .slice none 0 0)) sb_ ?_
 refine QY (fun (x : Nat × Value) => [(3, x.2), (11, v), (12, .int .i64 (l.length : Int)), (13, .int .i64 (x.1 : Int))]) (fun (x : Nat × Value) => R) (fun (x : Nat × Value) => slc 150 4 x.2 x.1 ((l.take x.1).map jb).flatten :: lsB b v :: lsS v l :: F) (fun (x : Nat × Value) => x.1 ≤ l.length ∧ x.2.oneCell' = true) (fun (x : Nat × Value) => l.length - x.1) (0, .slice none 0 0) (⟨by simp, rfl⟩) ?_
 rintro ⟨i, vk⟩ ⟨hi, hvk⟩
 try dsimp only
 dsimp only at hi hvk
 refine Qd fun K5 hK5 => Qc ?_
 refine Pa (QO rfl rfl) (Qe (hK5 _ _ _ (Qd fun K6 hK6 => ?_)))
 refine Qm rfl (fun hc14 => ?_) (fun hc14 => ?_)
 try simp only [dx] at hc14
 refine Qj (hK6 _ _ _ (Qd fun K8 hK8 => Qp (Qd fun K9 hK9 => Qc ?_)))
 have hi2 : i < l.length := by (try simp at hc14); omega
 obtain ⟨s, hs⟩ : ∃ s, l[i]? = some s := ⟨_, List.getElem?_eq_getElem hi2⟩
 have hsl := h s (List.mem_of_getElem? hs)
 have hnth : nth (bsV l) ((i : Int).toNat * 1 + 0) = some (.string (str s)) := by rw [Int.toNat_natCast, ZP]; simp [bsV, hs]
 refine Pa ((XA (sz := 1) (n := l.length) underlying42 sizeOf9 rfl rfl fd_ (by omega))) ?_
 refine Pa ((XD o9 rfl fd_ hnth)) (Ps (Qe (hK9 _ _ _ (Qc (Pm (Pm ?_))))))
 refine Pa (Ca call174 (QnD s)) ?_
 refine Qz (sz := 4) (wn0 rfl) rfl underlying148 sizeOf150 zeroValue150 rfl rfl rfl (by decide) (by decide) (fun bz => ?_)
 refine XF (sz := 4) (by_ := 56) ⟨underlying148, _, _, rfl, rfl, rfl, rfl, rfl⟩ (wn0 rfl) rfl rfl rfl fd_ (YT (xs := jb s) underlying148 fd_ (by unfold jb; (first | (simp [Value.oneCell']; done) | (intro u hu; simp only [List.mem_cons, List.not_mem_nil, or_false] at hu; rcases hu with rfl | rfl | rfl | rfl <;> first | rfl | assumption)))) rfl om_ (by simp only [maxLen]; omega) (fun v21 ho21 hh21 => ?_)
 rw [Qim l hs]
 refine Ps (Qe (hK8 _ _ _ (Qc ?_)))
 refine Pa (Qt rfl rfl om_) (Pm (Qe ?_))
 refine Xl (q' := QS _ _ _ _ _ _ _) rfl ?_
 refine QC ((i + 1, v21)) (⟨by dsimp only; omega, by assumption⟩) (by dsimp only; omega) (eC rfl (eC rfl (eC rfl (eC rfl eN)))) rfl sb_
 try simp only [dx] at hc14
 refine QL (hK3 _ _ _ ?_)
 refine Ql (eL 3 rfl eN) ?_
 refine Qd fun K10 hK10 => Qc ?_
 obtain rfl : i = l.length := by (try simp at hc14); omega
 rw [List.take_of_length_le (Nat.le_refl _)]
 refine Pm ?_
 refine Yd (e := 150) (sz := 4) (n := l.length) (v := vk) (xs := (l.map jb).flatten) fd_ (fun R2 hR2 hfr hxl => ?_)
 obtain ⟨q, cap, rfl, hrl⟩ := ((Qin R h).mono hR2).repL (by simpa using hfr) (by unfold big; simp; omega)
 refine Pa (Ca call176 (QnE _ rfl)) ?_
 refine Pa (Ca call175 (QjL (stN l) _ (hrl.node (by simp [big])) (Qio l) (by have := QhZ l; unfold big; omega) (by have := zf h hl; unfold big; unfold stB at this; omega))) ?_
 refine Pm ?_
 refine Pa (Qq rfl rfl) ?_
 refine Pa (Qq rfl rfl) (Ps (Ps (Qe (hK10 _ _ _ (Qd fun K11 hK11 => Qc ?_)))))
 refine Pm (Ps (Qe (hK11 _ _ _ (Qi (hret _ _ _ ?_)))))
 apply XL results172 (.cons (Qh rfl) .nil) _ [lsB b v, lsS v l] hR2 rfl
 case hp => rw [Qjv (by have := zf h hl; unfold stB at this; omega)]; exact ⟨rfl, rfl⟩
 case hS => exact sb_
theorem QdM (ks : List Nd) {i : Nat} {y : Nd} (hy : ks[i]? = some y) : (ks.take i).map Nd.s ++ [y.s] = (ks.take (i + 1)).map Nd.s := by
 rw [List.take_add_one, hy]; simp
theorem QdC {R : Hp} (b : Nat) (v : Value) (l : List Bs) (s : Bs) (hs : s.length ≤ 16777216) : Tri prog 171 [.pointer (some ⟨b, 0, none⟩), .string (str s)] R [lsB b v, lsS v l]
  (fun r R' L' => r = .bool (Zl s).2 ∧ ∃ v', L' = [lsB b v', lsS v' (unS s)]) := by
 obtain ⟨Y, hY⟩ : ∃ Y, Y = (Zl s).1 := ⟨_, rfl⟩
 refine Qn func171 rfl ntmps171 rfl (fun σ F Q hret hend hpan => ?_)
 try simp only [cB]
 refine Qd fun K1 hK1 => Qc (Ps (Qe (hK1 _ _ _ (Qd fun K2 hK2 => Qc ?_))))
 refine Pm ?_
 refine Ra call173 (Qlz s (by unfold big; omega)) ?_
 rintro r R1 L' hR1 ⟨cy, rfl, hy, rfl⟩
 rw [← hY] at hy
 obtain ⟨k1, n1, s1, l1, q1, cap1, hx1, rfl, hb1, hl1⟩ := hy.inv
 have hlb : l1.length ≤ big := hl1.choose_spec.1
 unfold big at hlb
 have hun : unS s = l1.map Nd.s := by unfold unS; rw [← hY, hx1]; rfl
 try simp only [cB]
 refine Pm ?_
 refine Pa (Qq rfl rfl) ?_
 refine Pa (Qq rfl rfl) ?_
 refine QA (wn0 rfl) rfl zeroValue150 rfl (fun bn => ?_)
 refine Qu Qw rfl (wn0 rfl) rfl rfl (ZU hy) fd_ (by exact Nat.le_refl 4) rfl ?_
 refine Ps (Qe (hK2 _ _ _ (Qd fun K3 hK3 => Qc ?_)))
 refine Pm ?_
 refine Pa (Qf rfl) ?_
 refine Pa (Ga underlying105 sizeOf42) ?_
 refine Sa o42 ?_
 refine YR (A := lsS (.slice none 0 0) []) (Yr _ _) ?_
 refine Qe (hK3 _ _ _ (Qd fun K4 hK4 => Qd fun K5 hK5 => Qc ?_))
 refine Pa (Ga underlying150 sizeOf148) ?_
 refine Pa (La Ys) ?_
 refine Pa (QR underlying148 rfl) (Pm (Qe (hK5 _ _ _ (Qp ?_))))
 refine Ql (E' := (fun (x : Nat × Value) => [(0, .pointer (some ⟨b, 0, none⟩)), (6, .bool (Zl s).2), (18, .slice q1 l1.length cap1), (19, .int .i64 (l1.length : Int)), (20, .int .i64 (x.1 : Int))]) (0, .slice none 0 0)) (eC rfl (eC rfl (eC rfl (eC rfl (eC rfl eN))))) ?_
 refine Xi (M := (fun (x : Nat × Value) => lsB b x.2 :: lsS x.2 ((l1.take x.1).map Nd.s) :: F) (0, .slice none 0 0)) sb_ ?_
 refine QY (fun (x : Nat × Value) => [(0, .pointer (some ⟨b, 0, none⟩)), (6, .bool (Zl s).2), (18, .slice q1 l1.length cap1), (19, .int .i64 (l1.length : Int)), (20, .int .i64 (x.1 : Int))]) (fun (x : Nat × Value) => R1) (fun (x : Nat × Value) => lsB b x.2 :: lsS x.2 ((l1.take x.1).map Nd.s) :: F) (fun (x : Nat × Value) => x.1 ≤ l1.length ∧ x.2.oneCell' = true) (fun (x : Nat × Value) => l1.length - x.1) (0, .slice none 0 0) (⟨by simp, rfl⟩) ?_
 rintro ⟨i, vk⟩ ⟨hi, hvk⟩
 try dsimp only
 dsimp only at hi hvk
 refine Qd fun K6 hK6 => Qc ?_
 refine Pa (QO rfl rfl) (Qe (hK6 _ _ _ (Qd fun K7 hK7 => ?_)))
 refine Qm rfl (fun hc21 => ?_) (fun hc21 => ?_)
 try simp only [dx] at hc21
 refine Qj (hK7 _ _ _ (Qd fun K9 hK9 => Qp (Qd fun K10 hK10 => Qc ?_)))
 have hi2 : i < l1.length := by (try simp at hc21); omega
 obtain ⟨y, hy2⟩ : ∃ x, l1[i]? = some x := ⟨_, List.getElem?_eq_getElem hi2⟩
 obtain ⟨bb, off, cs, rfl, hc4, hrep, hcell⟩ := hl1.at hy2
 obtain ⟨ky, ny, sy, ly, qy, capy, rfl, rfl, hby, _⟩ := hrep.inv
 have hml : ((l1.take i).map Nd.s).length = i := by rw [List.length_map, List.length_take]; omega
 refine Pa (Qy underlying148 sizeOf150 rfl rfl om_) ?_
 refine Pa ((XT Qw hc4 rfl (fun j u hj => by simpa using hcell j u hj))) ?_
 refine QA (wn0 rfl) rfl zeroValue150 rfl (fun b8 => ?_)
 refine Qu Qw rfl (wn0 rfl) rfl rfl (ZU hrep) fd_ (by exact Nat.le_refl 4) rfl ?_
 refine Qe (hK10 _ _ _ ?_)
 refine Xd (L := [lsB b vk, blk b8 [.int .i64 ky, .int .u64 ((ny : Nat) : Int), .string (str sy), .slice qy ly.length capy] 150]) [0, 1, 2, 3, 4, 5, 6] [7, 8] [9, 10, 11] _ sb_ (by kernel_rfl) (by kernel_rfl) (by kernel_rfl) rfl ?_
 refine Wa rfl (fun R1 hR1 G => (Qg rfl)) ?_
 refine Wa rfl (fun R1 hR1 G => (Qg rfl)) ?_
 refine Wa rfl (fun R1 hR1 G => (Qf rfl)) ?_
 refine Wa rfl (fun R1 hR1 G => (Ga underlying105 sizeOf42)) ?_
 refine Wa rfl (fun R1 hR1 G => (La o42)) ?_
 refine Wa rfl (fun R1 hR1 G => (Ga underlying150 sizeOf9)) ?_
 refine Wa rfl (fun R1 hR1 G => (La o9)) ?_
 refine Xc ?_
 refine QH rfl ?_
 try simp only [cC]
 refine Qz (sz := 1) (wn0 rfl) rfl underlying42 sizeOf9 zeroValue9 rfl rfl rfl (by decide) (by decide) (fun bz => ?_)
 refine QI le_ sb_ ?_
 refine QH rfl ?_
 try simp only [cC]
 refine XF (sz := 1) (by_ := 16) ⟨underlying42, _, _, rfl, rfl, rfl, rfl, rfl⟩ (wn0 rfl) rfl rfl rfl fd_ (YT (xs := [.string (str sy)]) underlying42 fd_ (by (first | (simp [Value.oneCell']; done) | (intro u hu; simp only [List.mem_cons, List.not_mem_nil, or_false] at hu; rcases hu with rfl | rfl | rfl | rfl <;> first | rfl | assumption)))) rfl om_ (by simp only [maxLen]; omega) (fun v32 ho32 hh32 => ?_)
 rw [QfG, show (l1.take i).map Nd.s ++ [sy] = (l1.take (i + 1)).map Nd.s from QdM l1 hy2]
 rw [show ((l1.take i).map Nd.s).length + 1 = ((l1.take (i + 1)).map Nd.s).length by rw [← QdM l1 hy2]; simp]
 refine QI le_ sb_ ?_
 refine Xe ?_
 try simp only [cC]
 refine Pa (Qf rfl) ?_
 refine Pa (Ga underlying105 sizeOf42) ?_
 refine Sa o42 ?_
 refine Qe (hK9 _ _ _ ?_)
 refine Ql (eL 0 rfl (eL 6 rfl (eL 18 rfl (eL 19 rfl (eL 20 rfl eN))))) ?_
 refine Qc ?_
 refine Pa (Qt rfl rfl om_) (Pm (Qe ?_))
 refine Xl (q' := QS _ _ _ _ _ _ _) rfl ?_
 refine QC ((i + 1, v32)) (⟨by dsimp only; omega, by assumption⟩) (by dsimp only; omega) (eC rfl (eC rfl (eC rfl (eC rfl (eC rfl eN))))) rfl sb_
 try simp only [dx] at hc21
 refine QL (hK4 _ _ _ (Qd fun K11 hK11 => Qc ?_))
 obtain rfl : i = l1.length := by (try simp at hc21); omega
 rw [List.take_of_length_le (Nat.le_refl _), ← hun]
 refine Pm (Ps (Qe (hK11 _ _ _ (Qi (hret _ _ _ ?_)))))
 apply XL results171 (.cons (Qh rfl) .nil) _ [lsB b vk, lsS vk (unS s)] hR1 rfl
 case hp => exact ⟨rfl, vk, rfl⟩
 case hS => exact sb_
theorem Qa9 (A : Asn) : ∀ (L F : List Asn), Sub (A :: (L ++ F)) (L ++ A :: F)
 | [], F => .refl _
 | B :: L, F => zP (.tail (.head _)) (Qa9 A L F)
theorem QTri.eq3 {P : Program} {f : FuncId} {args : List Value} {R : Hp} {L : List Asn} {v v' : Value} (h : QTri P f args R L v) (e : v = v') : QTri P f args R L v' := e ▸ h
theorem QTri.big {P : Program} {f : FuncId} {args : List Value} {R : Hp} {l : List (List Asn)} {i : Nat} {As L : List Asn} {v : Value} (hi : l[i]? = some As) (h : QTri P f args R (As ++ L) v) : QTri P f args R (Yn l :: L) v := fun σ F w hs => by
 have h1 : Sat σ R (As ++ Yn (l.eraseIdx i) :: (L ++ F)) w := Sat.split (A := gA As) (fun _ k => k) (Sat.split (A := Yn l) (As := [gA As, Yn (l.eraseIdx i)]) (Qca hi) hs)
 have h2 : Sat σ R ((As ++ L) ++ Yn (l.eraseIdx i) :: F) w := by rw [List.append_assoc]; exact h1.sub (jv As (Qa9 _ L F))
 refine (h σ _ w h2).mono fun e w' ⟨he, hw⟩ => ⟨he, ?_⟩
 have h3 : Sat σ R (As ++ Yn (l.eraseIdx i) :: (L ++ F)) w' := by rw [List.append_assoc] at hw; exact hw.sub (jv As (jw _ L F))
 have h4 := h3.bigIn (l := l) (i := i) (As := As) (M := L ++ F) (List.getElem?_eq_some_iff.1 hi).1 (.refl _)
 rw [show l.set i As = l from by apply List.ext_getElem?; intro j; rw [List.getElem?_set]; split <;> first | rfl | (rename_i h; subst h; rw [if_pos (List.getElem?_eq_some_iff.1 hi).1, hi])] at h4
 exact h4
theorem Tri.big {P : Program} {f : FuncId} {args : List Value} {R : Hp} {l : List (List Asn)} {i : Nat} {As L : List Asn} {post : Value → Hp → List Asn → List Asn → Prop} (hi : l[i]? = some As)
  (h : Tri P f args R (As ++ L) (fun r R' L' => ∃ As' L1, post r R' As' L1 ∧ L' = As' ++ L1)) : Tri P f args R (Yn l :: L) (fun r R' L' => ∃ As' L1, post r R' As' L1 ∧ L' = Yn (l.set i As') :: L1) := fun σ F w hs => by
 have h1 : Sat σ R (As ++ Yn (l.eraseIdx i) :: (L ++ F)) w := Sat.split (A := gA As) (fun _ k => k) (Sat.split (A := Yn l) (As := [gA As, Yn (l.eraseIdx i)]) (Qca hi) hs)
 have h2 : Sat σ R ((As ++ L) ++ Yn (l.eraseIdx i) :: F) w := by rw [List.append_assoc]; exact h1.sub (jv As (Qa9 _ L F))
 refine (h σ _ w h2).mono fun e w' ⟨R', L', hR, hw, hp⟩ => ?_
 cases e with
 | panicked ch => exact hp.elim
 | outgrown => exact hp.elim
 | returned v =>
  obtain ⟨As', L1, hpost, rfl⟩ := hp
  have h3 : Sat σ R' (As' ++ Yn (l.eraseIdx i) :: (L1 ++ F)) w' := by rw [List.append_assoc] at hw; exact hw.sub (jv As' (jw _ L1 F))
  exact ⟨R', Yn (l.set i As') :: L1, hR, h3.bigIn (l := l) (i := i) (As := As') (M := L1 ++ F) (List.getElem?_eq_some_iff.1 hi).1 (.refl _), As', L1, hpost, rfl⟩
theorem QgT {c : Cx} {q : Act → World → Prop} {E : Env} {R : Hp} {L M : List Asn} {A : Asn} {p : Prop} (f : Find A L M) (k : ∀ h, A h → p) (h : p → EJ c q E R L) : EJ c q E R L := fun a w hf hs => h (Sat.pure k (hs.find f)) a w hf hs
structure MV where
 m : Nat
 b : NB
 l : Nat
 v : NV
 vl : Value
structure GV where
 g : Nat
 va : Value
 n : Nat
 vn : Value
 css : List (List Value)
 vo : Value
 cs : List MV
@[reducible] def ifV (l : Nat) : Value := .iface 103 (.pointer (some ⟨l, 0, none⟩))
@[reducible] def mbB (c : MV) (ap : Int) : Asn := blk c.m [.pointer (some ⟨c.b.d, 0, none⟩), .pointer (some ⟨c.b.x, 0, none⟩), ifV c.l, .int .u64 ap] 87
@[reducible] def XZ (c : MV) (m : MS) : List Asn := mbB c m.ap :: lsB c.l c.vl :: lsS c.vl m.l :: ndI c.b c.v m.x m.D
def ZX (cs : List MV) (ms : List MS) : List (List Asn) := List.zipWith XZ cs ms
theorem yu {cs : List MV} {ms : List MS} {i : Nat} {c : MV} {m : MS} (hc : cs[i]? = some c) (hm : ms[i]? = some m) : (ZX cs ms)[i]? = some (XZ c m) := by
 unfold ZX; rw [List.getElem?_zipWith, hc, hm]
theorem Qkb {cs : List MV} {ms : List MS} {i : Nat} {c : MV} {m : MS} : (ZX cs ms).set i (XZ c m) = ZX (cs.set i c) (ms.set i m) := by
 unfold ZX
 apply List.ext_getElem?
 intro j
 rw [List.getElem?_set, List.getElem?_zipWith, List.getElem?_zipWith, List.getElem?_set, List.getElem?_set]
 by_cases h : i = j
 ·subst h
  rw [if_pos rfl, if_pos rfl, if_pos rfl]
  rw [List.length_zipWith]
  by_cases h1 : i < cs.length
  ·by_cases h2 : i < ms.length
   ·rw [if_pos (by omega), if_pos h1, if_pos h2]
   ·rw [if_neg (by omega), if_pos h1, if_neg h2]
  ·rw [if_neg (by omega), if_neg h1]
 ·rw [if_neg h, if_neg h, if_neg h]
def ZM (cs : List MV) : List Value := cs.map fun c => Value.pointer (some ⟨c.m, 0, none⟩)
@[reducible] def fnV : Value := .func (.func 20) ⟨[]⟩ ⟨[]⟩
@[reducible] def grB (w : GV) : Asn := blk w.g [w.va, fnV, .pointer (some ⟨w.n, 0, none⟩), w.vo] 90
@[reducible] def grS (w : GV) : Asn := slc 81 1 w.va w.cs.length (ZM w.cs)
def ocC (o : OC) : List Value := [.int .i64 o.node, .int .u64 o.index, .int .u64 o.term, .string (str o.out)]
def ocV (l : List OC) : List Value := (l.map ocC).flatten
@[reducible] def ocS (vo : Value) (l : List OC) : Asn := slc 41 4 vo l.length (ocV l)
@[reducible] def grR (w : GV) (G : GS) : List Asn := [grB w, grS w, Yf w.n w.vn G.last, XY w.vn G.st w.css, ocS w.vo G.out]
@[reducible] def grL (w : GV) (G : GS) : List Asn := Yn (ZX w.cs G.ms) :: grR w G
structure GOk (R : Hp) (w : GV) (G : GS) : Prop where
 len : w.cs.length = G.ms.length
 nd : ∀ (i : Nat) (c : MV) (m : MS), w.cs[i]? = some c → G.ms[i]? = some m → NOk R c.v m.x
 els : Els oneE R G.st w.css
theorem GOk.at {R : Hp} {w : GV} {G : GS} (h : GOk R w G) {i : Nat} {m : MS} (hm : G.ms[i]? = some m) : ∃ c, w.cs[i]? = some c ∧ NOk R c.v m.x ∧ (ZX w.cs G.ms)[i]? = some (XZ c m) := by
 have hi := (List.getElem?_eq_some_iff.1 hm).1
 have hc : w.cs[i]? = some (w.cs[i]'(by rw [h.len]; exact hi)) := List.getElem?_eq_getElem _
 exact ⟨_, hc, h.nd i _ m hc hm, yu hc hm⟩
def yF (cs : List MV) (i : Int) : Value := if 0 ≤ i then (match cs[i.toNat]? with | some c => .pointer (some ⟨c.m, 0, none⟩) | none => .pointer none) else .pointer none
theorem YY {cs : List MV} {i : Nat} {c : MV} (h : cs[i]? = some c) : yF cs (i : Int) = .pointer (some ⟨c.m, 0, none⟩) := by unfold yF; rw [if_pos (by omega), Int.toNat_natCast, h]
theorem yb {cs : List MV} {i : Int} (h : i < 0 ∨ (cs.length : Int) ≤ i) : yF cs i = .pointer none := by
 unfold yF
 by_cases h0 : 0 ≤ i
 ·rw [if_pos h0, List.getElem?_eq_none (by omega)]
 ·rw [if_neg h0]
theorem qg {R : Hp} (w : GV) (i : Int) : QTri prog 33 [.pointer (some ⟨w.g, 0, none⟩), .int .i64 i] R [grB w, grS w] (yF w.cs i) := by
 refine Tri.q ?_
 refine Qn func33 rfl ntmps33 rfl (fun σ F Q hret hend hpan => ?_)
 try simp only [cB]
 refine Qd fun K1 hK1 => Qc (Ps (Qe (hK1 _ _ _ (Qd fun K2 hK2 => Qd fun K3 hK3 => Qc ?_))))
 refine Pm ?_
 refine Pa (XV underlying26 rfl rfl) (Pm ?_)
 refine Pb (Qg rfl) ?_
 refine Pb (QO rfl rfl) ?_
 refine Pa (Qo rfl rfl) (Pm ?_)
 refine QE 11 rfl (fun hg11 => ?_) (fun hg11 => ?_)
 try simp only [dx] at hg11
 refine Pk (Pk (Pk (Pk (Pk (Pk (Pk ?_))))))
 refine Pa (Qr rfl rfl) (Qe (hK3 _ _ _ (Qv rfl (Qd fun K4 hK4 => Qc ?_))))
 refine Ps (Qe (hK4 _ _ _ (Qi (hret _ _ _ ?_))))
 refine Ea results33 (.cons (Qh rfl) .nil) [grB w, grS w] le_ ?_
 rw [yb (.inl (by (try simp at hg11); omega))]; exact ⟨rfl, rfl, rfl⟩
 try simp only [dx] at hg11
 refine Pb (Qg rfl) ?_
 refine Pb (Qg rfl) ?_
 refine Pb (Qf rfl) ?_
 refine Pb (Ga underlying90 sizeOf88) ?_
 refine Pb (La o88) ?_
 refine Pb (YE underlying88 rfl fd_) ?_
 refine Pb (YX rfl rfl) ?_
 refine Pa (Qo rfl rfl) (Qe (hK3 _ _ _ ?_))
 refine Ql (eL 0 rfl (eL 1 rfl (eL 19 rfl eN))) ?_
 refine Qm rfl (fun hc19 => ?_) (fun hc19 => ?_)
 try simp only [dx] at hc19
 refine Qd fun K6 hK6 => Qc (Ps (Qe (hK6 _ _ _ (Qi (hret _ _ _ ?_)))))
 refine Ea results33 (.cons (Qh rfl) .nil) [grB w, grS w] le_ ?_
 rw [yb (.inr (by (try simp at hc19); omega))]; exact ⟨rfl, rfl, rfl⟩
 try simp only [dx] at hc19
 refine Qj (hK2 _ _ _ (Qd fun K7 hK7 => Qc ?_))
 obtain ⟨i, rfl⟩ := Int.eq_ofNat_of_zero_le (show 0 ≤ i by (try simp at hg11); omega)
 have hi2 : i < w.cs.length := by (try simp at hc19); omega
 obtain ⟨c, hc⟩ : ∃ c, w.cs[i]? = some c := ⟨_, List.getElem?_eq_getElem hi2⟩
 have hnth : nth (ZM w.cs) ((i : Int).toNat * 1 + 0) = some (.pointer (some ⟨c.m, 0, none⟩)) := by rw [Int.toNat_natCast, ZP]; simp [ZM, hc]
 refine Pm ?_
 refine Pa (Qf rfl) ?_
 refine Pa (Ga underlying90 sizeOf88) ?_
 refine Pa (La o88) (Pm ?_)
 refine Pa ((XA (sz := 1) (n := w.cs.length) underlying88 sizeOf81 rfl rfl fd_ (by omega))) ?_
 refine Pa ((XD o81 rfl fd_ hnth)) (Ps (Qe (hK7 _ _ _ (Qi (hret _ _ _ ?_)))))
 refine Ea results33 (.cons (Qh rfl) .nil) [grB w, grS w] le_ ?_
 rw [YY hc]; exact ⟨rfl, rfl, rfl⟩
theorem Qkh {R : Hp} (w : GV) (c : MV) (m : MS) (i : Nat) (hc : w.cs[i]? = some c) : QTri prog 22 [.pointer (some ⟨w.g, 0, none⟩), .int .i64 (i : Int)] R (XZ c m ++ [grB w, grS w]) (.pointer (some ⟨c.b.x, 0, none⟩)) := by
 have ha := (qg (R := R) w (i : Int)).eq3 (YY hc)
 refine Tri.q ?_
 refine Qn func22 rfl ntmps22 rfl (fun σ F Q hret hend hpan => ?_)
 try simp only [cB]
 refine Qd fun K1 hK1 => Qc (Ps (Qe (hK1 _ _ _ (Qd fun K2 hK2 => Qd fun K3 hK3 => Qc ?_))))
 refine Pm (Pm ?_)
 refine Pa (Ca call33 (ha)) (Ps (Qe (hK3 _ _ _ (Qd fun K4 hK4 => Qc ?_))))
 refine Pm ?_
 refine Pa (qa underlying81 rfl rfl) (Qe (hK4 _ _ _ (Qv rfl (Qd fun K5 hK5 => Qc ?_))))
 refine Pm ?_
 refine Pa (Qf rfl) ?_
 refine Pa (Ga underlying87 sizeOf56) ?_
 refine Pa (La o56) (Ps (Qe (hK5 _ _ _ (Qi (hret _ _ _ ?_)))))
 refine Ea results22 (.cons (Qh rfl) .nil) (XZ c m ++ [grB w, grS w]) le_ ?_
 exact ⟨rfl, rfl, rfl⟩
theorem Qf6 {R : Hp} (w : GV) (c : MV) (m : MS) (i : Nat) (hc : w.cs[i]? = some c) : QTri prog 45 [.pointer (some ⟨w.g, 0, none⟩), .int .i64 (i : Int)] R (XZ c m ++ [grB w, grS w]) (ifV c.l) := by
 have ha := (qg (R := R) w (i : Int)).eq3 (YY hc)
 refine Tri.q ?_
 refine Qn func45 rfl ntmps45 rfl (fun σ F Q hret hend hpan => ?_)
 try simp only [cB]
 refine Qd fun K1 hK1 => Qc (Ps (Qe (hK1 _ _ _ (Qd fun K2 hK2 => Qd fun K3 hK3 => Qc ?_))))
 refine Pm (Pm ?_)
 refine Pa (Ca call33 (ha)) (Ps (Qe (hK3 _ _ _ (Qd fun K4 hK4 => Qc ?_))))
 refine Pm ?_
 refine Pa (qa underlying81 rfl rfl) (Qe (hK4 _ _ _ (Qv rfl (Qd fun K5 hK5 => Qc ?_))))
 refine Pm ?_
 refine Pa (Qf rfl) ?_
 refine Pa (Ga underlying87 sizeOf85) ?_
 refine Pa (La o85) (Ps (Qe (hK5 _ _ _ (Qi (hret _ _ _ ?_)))))
 refine Ea results45 (.cons (Qh rfl) .nil) (XZ c m ++ [grB w, grS w]) le_ ?_
 exact ⟨rfl, rfl, rfl⟩
theorem Qf8 {R : Hp} (w : GV) (c : MV) (m : MS) (i : Nat) (hc : w.cs[i]? = some c) : QTri prog 18 [.pointer (some ⟨w.g, 0, none⟩), .int .i64 (i : Int)] R (XZ c m ++ [grB w, grS w]) (.int .u64 m.ap) := by
 have ha := (qg (R := R) w (i : Int)).eq3 (YY hc)
 refine Tri.q ?_
 refine Qn func18 rfl ntmps18 rfl (fun σ F Q hret hend hpan => ?_)
 try simp only [cB]
 refine Qd fun K1 hK1 => Qc (Ps (Qe (hK1 _ _ _ (Qd fun K2 hK2 => Qd fun K3 hK3 => Qc ?_))))
 refine Pm (Pm ?_)
 refine Pa (Ca call33 (ha)) (Ps (Qe (hK3 _ _ _ (Qd fun K4 hK4 => Qc ?_))))
 refine Pm ?_
 refine Pa (qa underlying81 rfl rfl) (Qe (hK4 _ _ _ (Qv rfl (Qd fun K5 hK5 => Qc ?_))))
 refine Pm ?_
 refine Pa (Qf rfl) ?_
 refine Pa (Ga underlying87 sizeOf36) ?_
 refine Pa (La o36) (Ps (Qe (hK5 _ _ _ (Qi (hret _ _ _ ?_)))))
 refine Ea results18 (.cons (Qh rfl) .nil) (XZ c m ++ [grB w, grS w]) le_ ?_
 exact ⟨rfl, rfl, rfl⟩
theorem zj {R : Hp} (w : GV) : QTri prog 28 [.pointer (some ⟨w.g, 0, none⟩)] R [grB w] (.pointer (some ⟨w.n, 0, none⟩)) := by
 refine Tri.q ?_
 refine Qn func28 rfl ntmps28 rfl (fun σ F Q hret hend hpan => ?_)
 try simp only [cB]
 refine Qd fun K1 hK1 => Qc (Ps (Qe (hK1 _ _ _ (Qd fun K2 hK2 => Qd fun K3 hK3 => Qc ?_))))
 refine Pm ?_
 refine Pa (XV underlying26 rfl rfl) (Qe (hK3 _ _ _ (Qs rfl (Qj (hK2 _ _ _ (Qd fun K4 hK4 => Qc ?_))))))
 refine Pm ?_
 refine Pa (Qf rfl) ?_
 refine Pa (Ga underlying90 sizeOf66) ?_
 refine Pa (La o66) (Ps (Qe (hK4 _ _ _ (Qi (hret _ _ _ ?_)))))
 refine Ea results28 (.cons (Qh rfl) .nil) [grB w] le_ ?_
 exact ⟨rfl, rfl, rfl⟩
theorem Qn0 {R : Hp} (w : GV) (c : MV) (m : MS) (i : Nat) (hc : w.cs[i]? = some c) : QTri prog 17 [.pointer (some ⟨w.g, 0, none⟩), .int .i64 (i : Int)] R (XZ c m ++ [grB w, grS w]) c.vl := by
 refine Tri.q ?_
 refine Qn func17 rfl ntmps17 rfl (fun σ F Q hret hend hpan => ?_)
 try simp only [cB]
 refine Qd fun K1 hK1 => Qc (Ps (Qe (hK1 _ _ _ (Qd fun K2 hK2 => Qd fun K3 hK3 => Qc ?_))))
 refine Pm (Pm ?_)
 refine Pa (Ca call45 (Qf6 w c m i hc)) (Qe (hK3 _ _ _ (Qp (Qd fun K4 hK4 => Qc ?_))))
 refine Pa ((Qdq (r := .tuple ⟨[.pointer (some ⟨c.l, 0, none⟩), .bool true]⟩) (fun w => by kernel_rfl) rfl)) ?_
 refine Pa (Qq rfl rfl) ?_
 refine Pa (Qq rfl rfl) (Qe (hK4 _ _ _ (Qv rfl (Qd fun K5 hK5 => Qc ?_))))
 refine Ps (Qe (hK5 _ _ _ (Qd fun K6 hK6 => Qc ?_)))
 refine Pm ?_
 refine Pa (Qf rfl) ?_
 refine Pa (Ga underlying105 sizeOf42) ?_
 refine Pa (La o42) (Ps (Qe (hK6 _ _ _ (Qi (hret _ _ _ ?_)))))
 refine Ea results17 (.cons (Qh rfl) .nil) (XZ c m ++ [grB w, grS w]) le_ ?_
 exact ⟨rfl, rfl, rfl⟩
def MS.apply (m : MS) (i : Int) (o : List OC) (k : Nat) : MS × List OC := (m.todo.take k).foldl (XI i) (m, o)
theorem Qnw (i : Int) (r : MS × List OC) (e : Ent) : (XI i r e).1.x = r.1.x ∧ (XI i r e).1.D = r.1.D ∧ (XI i r e).1.ap = r.1.ap + 1 ∧ (XI i r e).1.l.length ≤ r.1.l.length + 1 ∧ (XI i r e).2.length ≤ r.2.length + 1 := by
 unfold XI
 split
 ·exact ⟨rfl, rfl, rfl, by simp, by simp⟩
 ·exact ⟨rfl, rfl, rfl, by simp, by simp⟩
theorem QcP (i : Int) : ∀ (l : List Ent) (r : MS × List OC), (l.foldl (XI i) r).1.x = r.1.x ∧ (l.foldl (XI i) r).1.D = r.1.D ∧ (l.foldl (XI i) r).1.ap = r.1.ap + l.length ∧ (l.foldl (XI i) r).1.l.length ≤ r.1.l.length + l.length ∧ (l.foldl (XI i) r).2.length ≤ r.2.length + l.length
 | [], r => ⟨rfl, rfl, by simp, by simp, by simp⟩
 | e :: l, r => by
  obtain ⟨a1, a2, a3, a4, a5⟩ := Qnw i r e
  obtain ⟨b1, b2, b3, b4, b5⟩ := QcP i l (XI i r e)
  rw [List.foldl_cons]
  refine ⟨b1.trans a1, b2.trans a2, ?_, ?_, ?_⟩
  ·rw [b3, a3, List.length_cons]; omega
  ·rw [List.length_cons]; omega
  ·rw [List.length_cons]; omega
theorem Qjs (i : Int) : ∀ (l : List Ent) (r : MS × List OC), r.1.l.length ≤ (l.foldl (XI i) r).1.l.length
 | [], r => Nat.le_refl _
 | e :: l, r => by
  rw [List.foldl_cons]
  refine Nat.le_trans ?_ (Qjs i l (XI i r e))
  unfold XI
  split
  ·exact Nat.le_refl _
  ·simp
theorem Qh5 {m : MS} {i : Int} {o : List OC} {k : Nat} {e : Ent} (h : m.todo[k]? = some e) : m.apply i o (k + 1) = XI i (m.apply i o k) e := by
 unfold MS.apply
 rw [List.take_add_one, h]
 simp
theorem Qjr {m : MS} {i : Int} {o : List OC} {k : Nat} (h : m.todo.length ≤ k) : m.apply i o k = m.todo.foldl (XI i) (m, o) := by unfold MS.apply; rw [List.take_of_length_le h]
theorem Qle {m : MS} (h : m.x.g.base ≤ m.ap) {k : Nat} (hk : m.ap + k < m.x.commit) : m.x.g.at (m.ap + k + 1) = m.todo[k]? := by
 unfold MS.todo
 rw [List.getElem?_take, if_pos (by omega), List.getElem?_drop]
 rw [show m.ap + (k : Int) + 1 = m.x.g.base + 1 + (((m.ap - m.x.g.base).toNat + k : Nat) : Int) by omega, LG.at_k]
theorem Qer {m : MS} : m.todo.length ≤ (m.x.commit - m.ap).toNat ∧ m.todo.length ≤ m.x.g.all.length := by
 unfold MS.todo
 rw [List.length_take, List.length_drop]; omega
theorem zh (m : MS) : m.rest.x = m.x ∧ m.rest.D = m.D ∧ m.ap ≤ m.rest.ap ∧ m.x.g.base ≤ m.rest.ap := by
 unfold MS.rest
 split
 ·exact ⟨rfl, rfl, by dsimp only; omega, Int.le_refl _⟩
 ·exact ⟨rfl, rfl, Int.le_refl _, by omega⟩
theorem Qj3 (l : List OC) (o : OC) : ocV l ++ ocC o = ocV (l ++ [o]) := by simp [ocV]
theorem Qb1 {R : Hp} (w : GV) (G : GS) (c : MV) (m : MS) (i : Nat) (ms : List Msg) (vl : Value) (hc : (w.cs[i]?).map MV.m = some c.m) (hms : FrX msgE R ms vl) (hsm : ∀ x ∈ ms, qz x) (hel : Els oneE R G.st w.css) (hv : NOk R c.v m.x)
  (hst : G.st.length + ms.length ≤ 1000000) (hla : 0 ≤ G.last ∧ G.last + ms.length ≤ 1000000) (hg : ¬ m.dn = true → m.x.g.ok ∧ m.x.commit ≤ 150000000000000 ∧ m.rest.l.length ≤ 100000) (hap : 0 ≤ m.ap ∧ m.ap ≤ 150000000000000) (hout : G.out.length ≤ 1000000000) :
  Tri prog 44 [.pointer (some ⟨w.g, 0, none⟩), .int .i64 (i : Int), vl] R (XZ c m ++ grR w G)
   (fun r R' L' => ∃ vl' vn css vo, Els oneE R' (G.st ++ XN G.last ms) css ∧ L' = XZ { c with vl := vl' } (Xh i m G.out).1 ++ grR { w with vn := vn, css := css, vo := vo } { G with st := G.st ++ XN G.last ms, last := G.last + ms.length, out := (Xh i m G.out).2 }) := by
 obtain ⟨c0, hc0, hcm⟩ := Option.map_eq_some_iff.1 hc
 have hi2 : i < w.cs.length := (List.getElem?_eq_some_iff.1 hc0).1
 have hnth : nth (ZM w.cs) ((i : Int).toNat * 1 + 0) = some (.pointer (some ⟨c.m, 0, none⟩)) := by rw [Int.toNat_natCast, ZP]; simp [ZM, hc0, hcm]
 have hveo := hms.one
 obtain ⟨hrx, hrD, hrap, hrb⟩ := zh m
 refine Qn func44 rfl ntmps44 rfl (fun σ F Q hret hend hpan => ?_)
 try simp only [cB]
 refine Qd fun K1 hK1 => Qc (Pm ?_)
 refine Pa (Qf rfl) ?_
 refine Pa (Ga underlying90 sizeOf66) ?_
 refine Pa (La o66) (Pm ?_)
 refine Ra call65 (Qe4 w.n w.vn G.last G.st w.css hel vl ms hms hsm hla hst) ?_
 rintro r R2 L' hR2 ⟨vn, css, hels, rfl⟩
 have hv2 := hv.mono hR2
 try simp only [cB]
 refine Qe (hK1 _ _ _ (Qd fun K2 hK2 => Qc (Pm ?_)))
 refine Pa (Qf rfl) ?_
 refine Pa (Ga underlying90 sizeOf88) ?_
 refine Pa (La o88) (Pm ?_)
 refine Pa ((XA (sz := 1) (n := w.cs.length) underlying88 sizeOf81 rfl rfl fd_ (by omega))) ?_
 refine Pa ((XD o81 rfl fd_ hnth)) (Ps (Qe (hK2 _ _ _ (Qd fun K3 hK3 => Qd fun K4 hK4 => Qc ?_))))
 refine Pm ?_
 refine Pa (Qf rfl) ?_
 refine Pa (Ga underlying87 sizeOf56) ?_
 refine Pa (La o56) ?_
 refine Pa (Ca call37 (qL c.b c.v m.x m.D)) (Qe (hK4 _ _ _ ?_))
 refine Ql (eL 0 rfl (eL 1 rfl (eL 6 rfl (eL 29 rfl eN)))) ?_
 refine Qm rfl (fun hc29 => ?_) (fun hc29 => ?_)
 have f0 : m.dn = true := hc29
 have e0 : Xh i m G.out = (m, G.out) := by unfold Xh; rw [if_pos f0]
 refine Qi (hret _ _ _ ?_)
 refine Ea results44 .nil (XZ c m ++ grR { w with vn := vn, css := css, vo := w.vo } { G with st := G.st ++ XN G.last ms, last := G.last + ms.length, out := G.out }) (by first | exact Hp.le_trans hR2 hR4 | exact hR2) ?_
 rw [e0]; exact ⟨c.vl, vn, css, w.vo, hels, rfl⟩
 have f0 : ¬ m.dn = true := by unfold MS.dn; rw [show Xm (m.x, m.D) = false from hc29]; decide
 obtain ⟨hgo, hco, hrl⟩ := hg f0
 have hgb := hgo.base
 have hgs := hgo.state
 have hga := hgo.alln
 have e0 : Xh i m G.out = m.rest.todo.foldl (XI i) (m.rest, G.out) := by unfold Xh; rw [if_neg f0]
 refine Qj (hK3 _ _ _ (Qd fun K6 hK6 => ?_))
 have hJ7 : ∀ (x : Value × MS × Hp), m.rest = x.2.1 ∧ R2.le x.2.2 → EJ ⟨prog, 116, σ⟩ K6 [(0, .pointer (some ⟨w.g, 0, none⟩)), (1, .int .i64 (i : Int)), (6, .pointer (some ⟨c.m, 0, none⟩))] x.2.2 (mbB c x.2.1.ap :: lsB c.l x.1 :: lsS x.1 x.2.1.l :: (ndI c.b c.v m.x m.D ++ [grB w, grS w, Yf w.n vn (G.last + ms.length), XY vn (G.st ++ XN G.last ms) css, ocS w.vo G.out]) ++ F) := by
  rintro ⟨vl4, m4, R4⟩ ⟨hm4, hR4⟩
  try dsimp only
  dsimp only at hm4 hR4
  subst hm4
  refine QgT (A := lsS vl4 m.rest.l) fd_ qo (fun hvl4 => ?_)
  refine QgT (A := ocS w.vo G.out) fd_ qo (fun hvo4 => ?_)
  have hv4 := hv2.mono hR4
  have htl := Qer (m := m.rest)
  rw [hrx] at htl
  refine hK6 _ _ _ (Qp ?_)
  rw [show mbB c m.rest.ap = mbB c (m.rest.ap + ((0 : Nat) : Int)) by simp, show lsS vl4 m.rest.l = lsS vl4 (m.rest.apply i G.out 0).1.l from rfl, show ocS w.vo G.out = ocS w.vo (m.rest.apply i G.out 0).2 from rfl]
  refine Ql (E' := (fun (y : Nat × Value × Value) => [(0, .pointer (some ⟨w.g, 0, none⟩)), (1, .int .i64 (i : Int)), (6, .pointer (some ⟨c.m, 0, none⟩))]) (0, vl4, w.vo)) (eC rfl (eC rfl (eC rfl eN))) ?_
  refine Xi (M := (fun (y : Nat × Value × Value) => mbB c (m.rest.ap + (y.1 : Int)) :: lsB c.l y.2.1 :: lsS y.2.1 (m.rest.apply i G.out y.1).1.l :: (ndI c.b c.v m.x m.D ++ [grB { w with vo := y.2.2 }, grS w, Yf w.n vn (G.last + ms.length), XY vn (G.st ++ XN G.last ms) css, ocS y.2.2 (m.rest.apply i G.out y.1).2]) ++ F) (0, vl4, w.vo)) sb_ ?_
  refine QY (fun (y : Nat × Value × Value) => [(0, .pointer (some ⟨w.g, 0, none⟩)), (1, .int .i64 (i : Int)), (6, .pointer (some ⟨c.m, 0, none⟩))]) (fun (y : Nat × Value × Value) => R4) (fun (y : Nat × Value × Value) => mbB c (m.rest.ap + (y.1 : Int)) :: lsB c.l y.2.1 :: lsS y.2.1 (m.rest.apply i G.out y.1).1.l :: (ndI c.b c.v m.x m.D ++ [grB { w with vo := y.2.2 }, grS w, Yf w.n vn (G.last + ms.length), XY vn (G.st ++ XN G.last ms) css, ocS y.2.2 (m.rest.apply i G.out y.1).2]) ++ F) (fun (y : Nat × Value × Value) => y.1 ≤ m.rest.todo.length ∧ y.2.1.oneCell' = true ∧ y.2.2.oneCell' = true) (fun (y : Nat × Value × Value) => m.rest.todo.length - y.1) (0, vl4, w.vo) (⟨by simp, hvl4, hvo4⟩) ?_
  rintro ⟨k, vk, vo⟩ ⟨hk, hvk, hvo⟩
  try dsimp only
  dsimp only at hk hvk hvo
  obtain ⟨p1, p2, p3, p4, p5⟩ := QcP (i : Int) (m.rest.todo.take k) (m.rest, G.out)
  have p33 : (m.rest.apply i G.out k).1.ap = m.rest.ap + (k : Int) := by rw [show (m.rest.apply i G.out k) = (m.rest.todo.take k).foldl (XI i) (m.rest, G.out) from rfl, p3, List.length_take, Nat.min_eq_left (by omega)]
  have p55 : (m.rest.apply i G.out k).2.length ≤ 1000200000 := Nat.le_trans p5 (by have h9 : (m.rest.todo.take k).length = min k m.rest.todo.length := List.length_take; dsimp only; omega)
  have px : (m.rest.apply i G.out k).1.x = m.x := p1.trans hrx
  have pD : (m.rest.apply i G.out k).1.D = m.D := p2.trans hrD
  have pfin : m.rest.todo.length ≤ k → Xh i m G.out = m.rest.apply i G.out k := fun h => by rw [e0, Qjr h]
  refine Qd fun K7 hK7 => Qd fun K8 hK8 => ?_
  refine Xr (by kernel_rfl) (by kernel_rfl) ?_
  refine Qa (Qg rfl) ?_
  refine Qa (Qf rfl) ?_
  refine Qa (Ga underlying87 sizeOf36) ?_
  refine Qa (La o36) ?_
  refine Qa (Qg rfl) ?_
  refine Qa (Qf rfl) ?_
  refine Qa (Ga underlying87 sizeOf56) ?_
  refine Qa (La o56) ?_
  refine Qa (Ca call39 (QhI c.b c.v m.x)) ?_
  refine Qa (QO rfl rfl) ?_
  refine Xb ?_
  refine hK8 _ _ _ ?_
  refine Qm rfl (fun hc65 => ?_) (fun hc65 => ?_)
  have f2 : m.rest.ap + (k : Int) < m.x.commit := by simpa using hc65
  obtain ⟨e, ok, hev, hok1, hok2⟩ := Qak (m.rest.todo[k]?)
  have hat : ∀ R1, R4.le R1 → QTri prog 40 [.pointer (some ⟨c.b.l, 0, none⟩), .int .u64 (m.rest.ap + (k : Int) + 1)] R1 [lgN c.b c.v m.x] (QF [.agg ⟨Yu e⟩, .bool ok]) := fun R1 hR1 => by rw [← hev, show m.rest.todo[k]? = m.x.g.at (m.rest.ap + (k : Int) + 1) by rw [← hrx]; exact (Qle (by rw [hrx]; exact hrb) (by rw [hrx]; exact f2)).symm]; exact Qcu (R := R1) c.b.l (some ⟨c.b.d, 0, none⟩) c.v.va m.x.g hgo (hv4.va.mono hR1) (m.rest.ap + (k : Int) + 1) (by unfold QM; omega)
  refine Qj (hK7 _ _ _ (Qp (Qd fun K10 hK10 => ?_)))
  refine Xd (L := [mbB c (m.rest.ap + (k : Int)), ndB c.b c.v m.x, lgN c.b c.v m.x]) [0, 1, 2, 3, 4, 5, 6, 7, 8, 9, 10, 11, 12, 13] [14, 15] [16] _ sb_ (by kernel_rfl) (by kernel_rfl) (by kernel_rfl) rfl ?_
  refine Wa rfl (fun R1 hR1 G => (Qg rfl)) ?_
  refine Wa rfl (fun R1 hR1 G => (Qf rfl)) ?_
  refine Wa rfl (fun R1 hR1 G => (Ga underlying87 sizeOf56)) ?_
  refine Wa rfl (fun R1 hR1 G => (La o56)) ?_
  refine Wa rfl (fun R1 hR1 G => (Ca call23 (Qc9 c.b c.v m.x))) ?_
  refine Wa rfl (fun R1 hR1 G => (Qg rfl)) ?_
  refine Wa rfl (fun R1 hR1 G => (Qf rfl)) ?_
  refine Wa rfl (fun R1 hR1 G => (Ga underlying87 sizeOf36)) ?_
  refine Wa rfl (fun R1 hR1 G => (La o36)) ?_
  refine Wa rfl (fun R1 hR1 G => (Zq rfl rfl (by omega))) ?_
  refine Wa rfl (fun R1 hR1 G => (Ca call40 (hat R1 hR1))) ?_
  refine Wa rfl (fun R1 hR1 G => (Qg rfl)) ?_
  refine Wa rfl (fun R1 hR1 G => (Qq rfl rfl)) ?_
  refine Wa rfl (fun R1 hR1 G => (Qq rfl rfl)) ?_
  refine Xc ?_
  refine QH rfl ?_
  try simp only [cC]
  refine QA (wn0 rfl) rfl zeroValue93 rfl (fun be => ?_)
  refine QI le_ sb_ ?_
  refine QH rfl ?_
  try simp only [cC]
  refine Sm (vs := Yu e) m93 (entE.one (R := R4) (x := e) rfl) ?_
  refine QI le_ sb_ ?_
  refine Xe ?_
  try simp only [cC]
  refine Ps (Qe (hK10 _ _ _ ?_))
  refine Ql (eL 0 rfl (eL 1 rfl (eL 6 rfl (eL 10 rfl (eL 11 rfl eN))))) ?_
  refine Qd fun K11 hK11 => Qd fun K12 hK12 => Qc (Pm ?_)
  refine Pa (Yq rfl) (Qe (hK12 _ _ _ ?_))
  refine Qm rfl (fun hc81 => ?_) (fun hc81 => ?_)
  have g1 := hok2 (by simpa using hc81)
  have f3 : m.rest.todo.length ≤ k := by rw [List.getElem?_eq_none_iff] at g1; exact g1
  refine Qi (hret _ _ _ ?_)
  refine Ea results44 .nil (mbB c (m.rest.ap + (k : Int)) :: lsB c.l vk :: lsS vk (m.rest.apply i G.out k).1.l :: (ndI c.b c.v m.x m.D ++ [grB { w with vo := vo }, grS w, Yf w.n vn (G.last + ms.length), XY vn (G.st ++ XN G.last ms) css, ocS vo (m.rest.apply i G.out k).2])) (by first | exact Hp.le_trans hR2 hR4 | exact hR2) ?_
  refine ⟨vk, vn, css, vo, hels.mono hR4, ?_⟩
  rw [pfin f3]; simp only [XZ, px, pD, p33]; rfl
  have g1 := hok1 (by simpa using hc81)
  have g2 : k < m.rest.todo.length := (List.getElem?_eq_some_iff.1 g1).1
  have hs := Qh5 (i := (i : Int)) (o := G.out) g1
  have p44 : (m.rest.apply i G.out k).1.l.length ≤ 200000 := Nat.le_trans p4 (by have h9 : (m.rest.todo.take k).length = min k m.rest.todo.length := List.length_take; dsimp only; omega)
  refine Qj (hK11 _ _ _ (Qd fun K14 hK14 => Qc (Pm ?_)))
  refine Pa (Qf rfl) ?_
  refine Pa (Ga underlying87 sizeOf36) ?_
  refine Pa (La o36) ?_
  refine Pa ((Yld.to (u := .int .u64 (m.rest.ap + ((k + 1 : Nat) : Int))) (Zq rfl rfl (by omega)) (by congr 1; omega))) ?_
  refine Pa (Qf rfl) ?_
  refine Pa (Ga underlying87 sizeOf36) ?_
  refine Sa o36 ?_
  refine Qe (hK14 _ _ _ (Qd fun K15 hK15 => Qc ?_))
  refine Pa (Ga underlying93 sizeOf9) ?_
  refine Pa (La o9) ?_
  refine Pa (Qeh rfl rfl) (Qe (hK15 _ _ _ ?_))
  refine Qm rfl (fun hc91 => ?_) (fun hc91 => ?_)
  have f4 : ¬ e.2 = [] := by simpa using hc91
  have q1 : (m.rest.apply i G.out (k + 1)).1.l = (m.rest.apply i G.out k).1.l ++ [e.2] := by rw [hs]; unfold XI; rw [if_neg f4]
  have q2 : (m.rest.apply i G.out (k + 1)).2 = (m.rest.apply i G.out k).2 ++ [⟨i, m.rest.ap + ((k + 1 : Nat) : Int), e.1, jK ((m.rest.apply i G.out k).1.l.length + 1)⟩] := by rw [hs]; unfold XI; rw [if_neg f4]; dsimp only; rw [p33]; congr 3; omega
  refine Xd (L := [grB { w with vo := vo }, mbB c (m.rest.ap + ((k + 1 : Nat) : Int)), blk be (Yu e) 93]) [0, 1, 2, 3, 4, 5, 6, 7, 8, 9, 10, 11, 12, 13, 14, 15, 16, 17] [18, 19, 20, 21] [22, 23, 24] _ sb_ (by kernel_rfl) (by kernel_rfl) (by kernel_rfl) rfl ?_
  refine Wa rfl (fun R1 hR1 G => (Qg rfl)) ?_
  refine Wa rfl (fun R1 hR1 G => (Qg rfl)) ?_
  refine Wa rfl (fun R1 hR1 G => (Qf rfl)) ?_
  refine Wa rfl (fun R1 hR1 G => (Ga underlying90 sizeOf34)) ?_
  refine Wa rfl (fun R1 hR1 G => (La o34)) ?_
  refine Wa rfl (fun R1 hR1 G => (Qg rfl)) ?_
  refine Wa rfl (fun R1 hR1 G => (Qg rfl)) ?_
  refine Wa rfl (fun R1 hR1 G => (Qf rfl)) ?_
  refine Wa rfl (fun R1 hR1 G => (Ga underlying87 sizeOf36)) ?_
  refine Wa rfl (fun R1 hR1 G => (La o36)) ?_
  refine Wa rfl (fun R1 hR1 G => (Ga underlying93 sizeOf36)) ?_
  refine Wa rfl (fun R1 hR1 G => (La o36)) ?_
  refine Wa rfl (fun R1 hR1 G => (Qg rfl)) ?_
  refine Wa rfl (fun R1 hR1 G => (Qf rfl)) ?_
  refine Wa rfl (fun R1 hR1 G => (Ga underlying87 sizeOf85)) ?_
  refine Wa rfl (fun R1 hR1 G => (La o85)) ?_
  refine Wa rfl (fun R1 hR1 G => (Ga underlying93 sizeOf9)) ?_
  refine Wa rfl (fun R1 hR1 G => (La o9)) ?_
  refine Xc ?_
  refine QH rfl ?_
  try simp only [cC]
  refine zQ (wn0 rfl) rfl rfl (fun w => by kernel_rfl) call170 rfl (Qmx c.l vk (m.rest.apply i G.out k).1.l e.2 p44) sp_ (fun _ _ _ _ h => h.elim) ?_
  rintro r R5 L' hR5 ⟨rfl, rfl, v110, rfl⟩
  rw [← q1]
  refine Qbf (A := lsS v110 (m.rest.apply i G.out (k + 1)).1.l) fd_ qo (fun h110 => ?_)
  try simp only [cB]
  refine QI le_ sb_ ?_
  refine QH rfl ?_
  try simp only [cC]
  refine Pa (QV (cells := [_, _, _, _]) [(0, 1), (1, 1), (2, 1), (3, 1)] underlying41 zeroValue41 (fun _ => rfl) rfl rfl) ?_
  refine QI le_ sb_ ?_
  refine QH rfl ?_
  try simp only [cC]
  refine Qz (sz := 4) (wn0 rfl) rfl underlying34 sizeOf41 zeroValue41 rfl rfl rfl (by decide) (by decide) (fun bo => ?_)
  refine QI le_ sb_ ?_
  refine QH rfl ?_
  try simp only [cC]
  refine XF (sz := 4) (by_ := 40) ⟨underlying34, _, _, rfl, rfl, rfl, rfl, rfl⟩ (wn0 rfl) rfl rfl rfl fd_ (YT (xs := ocC ⟨i, m.rest.ap + ((k + 1 : Nat) : Int), e.1, jK ((m.rest.apply i G.out k).1.l.length + 1)⟩) underlying34 fd_ (by unfold ocC; (first | (simp [Value.oneCell']; done) | (intro u hu; simp only [List.mem_cons, List.not_mem_nil, or_false] at hu; rcases hu with rfl | rfl | rfl | rfl <;> first | rfl | assumption)))) rfl om_ (by simp only [maxLen]; omega) (fun v113 ho113 hh113 => ?_)
  rw [Qj3, ← q2]
  rw [show (m.rest.apply i G.out k).2.length + 1 = (m.rest.apply i G.out (k + 1)).2.length by rw [q2]; simp]
  refine QI le_ sb_ ?_
  refine Xe ?_
  try simp only [cC]
  refine Pa (Qf rfl) ?_
  refine Pa (Ga underlying90 sizeOf34) ?_
  refine Sa o34 ?_
  refine Qe ?_
  refine Xl (q' := QS _ _ _ _ _ _ _) rfl ?_
  refine QC ((k + 1, v110, v113)) (⟨by dsimp only; omega, by assumption, by assumption⟩) (by dsimp only; omega) (eC rfl (eC rfl (eC rfl eN))) rfl sb_
  have f4 : e.2 = [] := by simpa using hc91
  have q1 : (m.rest.apply i G.out (k + 1)).1.l = (m.rest.apply i G.out k).1.l := by rw [hs]; unfold XI; rw [if_pos f4]
  have q2 : (m.rest.apply i G.out (k + 1)).2 = (m.rest.apply i G.out k).2 := by rw [hs]; unfold XI; rw [if_pos f4]
  rw [← q1, ← q2]
  refine Qj ?_
  refine Xl (q' := QS _ _ _ _ _ _ _) rfl ?_
  refine QC ((k + 1, vk, vo)) (⟨by dsimp only; omega, hvk, hvo⟩) (by dsimp only; omega) (eC rfl (eC rfl (eC rfl eN))) rfl sb_
  have f2 : ¬ m.rest.ap + (k : Int) < m.x.commit := by simpa using hc65
  have f3 : m.rest.todo.length ≤ k := by omega
  refine QL (hend _ _ _ ?_)
  apply QD results44 .nil _ (mbB c (m.rest.ap + (k : Int)) :: lsB c.l vk :: lsS vk (m.rest.apply i G.out k).1.l :: (ndI c.b c.v m.x m.D ++ [grB { w with vo := vo }, grS w, Yf w.n vn (G.last + ms.length), XY vn (G.st ++ XN G.last ms) css, ocS vo (m.rest.apply i G.out k).2])) (by first | exact Hp.le_trans hR2 hR4 | exact hR2) rfl
  case hp =>
   refine ⟨vk, vn, css, vo, hels.mono hR4, ?_⟩
   rw [pfin f3]; simp only [XZ, px, pD, p33]; rfl
  case hS => exact sb_
 refine Qd fun K17 hK17 => Qc (Pm ?_)
 refine Pa (Qf rfl) ?_
 refine Pa (Ga underlying87 sizeOf56) ?_
 refine Pa (La o56) ?_
 refine Pa (Ca call23 (Qc9 c.b c.v m.x)) ?_
 refine Pa (Ca call25 (yw c.b.l (some ⟨c.b.d, 0, none⟩) c.v.va m.x.g)) (Pm ?_)
 refine Pa (Qq rfl rfl) ?_
 refine Pa (Qq rfl rfl) ?_
 refine Pa (Qq rfl rfl) (Ps (Ps (Ps (Qe (hK17 _ _ _ ?_)))))
 refine Ql (eL 0 rfl (eL 1 rfl (eL 6 rfl (eL 7 rfl (eL 9 rfl eN))))) ?_
 refine Qd fun K18 hK18 => Qc (Pm (Pm ?_))
 refine Pa (Qf rfl) ?_
 refine Pa (Ga underlying87 sizeOf36) ?_
 refine Pa (La o36) ?_
 refine Pa (Xs rfl rfl) (Qe (hK18 _ _ _ ?_))
 refine Qm rfl (fun hc45 => ?_) (fun hc45 => ?_)
 have f1 : m.x.g.base > m.ap := by simpa using hc45
 have e1 : m.rest = { m with l := unS m.x.g.state, ap := m.x.g.base } := by unfold MS.rest; rw [if_pos f1]
 refine Qd fun K20 hK20 => Qc (Pm ?_)
 refine Pa (Qf rfl) ?_
 refine Pa (Ga underlying87 sizeOf85) ?_
 refine Pa (La o85) (Pm ?_)
 refine zQ (wn0 rfl) rfl rfl (fun w => by kernel_rfl) call171 rfl (QdC c.l c.vl m.l m.x.g.state (by omega)) sp_ (fun _ _ _ _ h => h.elim) ?_
 rintro r R3 L' hR3 ⟨rfl, vl3, rfl⟩
 try simp only [cB]
 refine Qe (hK20 _ _ _ (Qc (Pm (Pm ?_))))
 refine Pa (Qf rfl) ?_
 refine Pa (Ga underlying87 sizeOf36) ?_
 refine Sa o36 ?_
 refine Qe ?_
 refine QG hJ7 ((vl3, { m with l := unS m.x.g.state, ap := m.x.g.base }, R3)) (⟨e1, hR3⟩) (eC rfl (eC rfl (eC rfl eN))) rfl sb_
 have f1 : ¬ m.x.g.base > m.ap := by simpa using hc45
 have e1 : m.rest = m := by unfold MS.rest; rw [if_neg f1]
 refine Qj ?_
 refine QG hJ7 ((c.vl, m, R2)) (⟨e1, Hp.le_refl _⟩) (eC rfl (eC rfl (eC rfl eN))) rfl sb_
theorem QeJ {R : Hp} (b : NB) (v : NV) (x : ND) (D : DK) (fk : FuncId) (caps : List Value) (Ex : List Asn) (hd : Xm (x, D) = true) :
  Tri prog 62 [.pointer (some ⟨b.x, 0, none⟩), .func (.func fk) ⟨[]⟩ ⟨caps⟩] R (ndI b v x D ++ Ex) (fun r R' L' => r = .slice none 0 0 ∧ L' = ndI b v x D ++ Ex) := by
 refine Qeq func62 rfl ntmps62 rfl (fun σ F Q hret hend hpan hQ => ?_)
 try simp only [cB]
 refine Qd fun K1 hK1 => ?_
 refine Qc ?_
 refine QA (wn0 rfl) rfl zeroValue98 rfl (fun b4 => ?_)
 refine Qe ?_
 refine hK1 _ _ _ ?_
 refine Qd fun K2 hK2 => ?_
 refine Qd fun K3 hK3 => ?_
 refine Qc ?_
 refine Pm ?_
 refine Pa (Ca call37 ((qL b v x D).eq3 (v' := .bool true) (by rw [hd]))) ?_
 refine Qe ?_
 refine hK3 _ _ _ ?_
 refine Qv rfl ?_
 refine Qd fun K4 hK4 => ?_
 refine Qc ?_
 refine Sa o98 ?_
 refine Qe ?_
 refine hK4 _ _ _ ?_
 refine Qi ?_
 refine hret _ _ _ ?_
 apply XL results62 (.cons (Qbd o98 rfl fd_ rfl) .nil) _ (ndI b v x D ++ Ex) (Hp.le_refl _) rfl
 case hp => exact ⟨rfl, rfl⟩
 case hS => exact sb_
theorem Qlg {R : Hp} (b : NB) (v : NV) (x : ND) (D : DK) (hd : Xm (x, D) = true) : Tri prog 50 [.pointer (some ⟨b.x, 0, none⟩)] R (ndI b v x D) (fun r R' L' => r = .slice none 0 0 ∧ L' = ndI b v x D) := by
 refine Qn func50 rfl ntmps50 rfl (fun σ F Q hret hend hpan => ?_)
 try simp only [cB]
 refine Qd fun K1 hK1 => Qc ?_
 refine Xa (wn0 rfl) rfl rfl rfl (fun bX => ?_)
 refine Ps (Qe (hK1 _ _ _ (Qd fun K2 hK2 => Qc ?_)))
 refine Pa (La o56) ?_
 refine Pa (YB rfl rfl) ?_
 refine Ra call62 (QeJ b v x D 68 [.pointer (some ⟨bX, 0, none⟩)] [blk bX [.pointer (some ⟨b.x, 0, none⟩)] 56] hd) ?_
 rintro r R2 L' hR2 ⟨rfl, rfl⟩
 try simp only [cB]
 refine Ps (Qe (hK2 _ _ _ (Qi (hret _ _ _ ?_))))
 apply XL results50 (.cons (Qh rfl) .nil) _ (ndI b v x D) hR2 rfl
 case hp => exact ⟨rfl, rfl⟩
 case hS => exact sb_
theorem Qhw {R : Hp} (b : NB) (v : NV) (x : ND) (D : DK) (m : Msg) (ve : Value) (hve : FrX entE R m.es ve) (hd : Xm (x, D) = true) : Tri prog 53 [.pointer (some ⟨b.x, 0, none⟩), .agg ⟨QT m ve⟩] R (ndI b v x D) (fun r R' L' => r = .slice none 0 0 ∧ L' = ndI b v x D) := by
 have hveo := hve.one
 refine Qn func53 rfl ntmps53 rfl (fun σ F Q hret hend hpan => ?_)
 try simp only [cB]
 refine Qd fun K1 hK1 => Qc ?_
 refine Xa (wn0 rfl) rfl rfl rfl (fun bX => ?_)
 refine Xa (wn0 rfl) rfl rfl rfl (fun bM => ?_)
 refine Ps (Qe (hK1 _ _ _ (Qd fun K2 hK2 => Qc ?_)))
 refine Pa (La o56) ?_
 refine Pa (YB rfl rfl) ?_
 refine Ra call62 (QeJ b v x D 73 [.pointer (some ⟨bM, 0, none⟩), .pointer (some ⟨bX, 0, none⟩)] [blk bX [.pointer (some ⟨b.x, 0, none⟩)] 56, blk bM (QT m ve) 117] hd) ?_
 rintro r R2 L' hR2 ⟨rfl, rfl⟩
 try simp only [cB]
 refine Ps (Qe (hK2 _ _ _ (Qi (hret _ _ _ ?_))))
 apply XL results53 (.cons (Qh rfl) .nil) _ (ndI b v x D) hR2 rfl
 case hp => exact ⟨rfl, rfl⟩
 case hS => exact sb_
theorem QhB {R : Hp} (b : NB) (v : NV) (x : ND) (D : DK) (cmd : Bs) (hd : Xm (x, D) = true) : Tri prog 43 [.pointer (some ⟨b.x, 0, none⟩), .string (str cmd)] R (ndI b v x D) (fun r R' L' => r = QF [.int .u64 0, .int .u64 0, .slice none 0 0] ∧ L' = ndI b v x D) := by
 refine Qn func43 rfl ntmps43 rfl (fun σ F Q hret hend hpan => ?_)
 try simp only [cB]
 refine Qd fun K1 hK1 => Qc ?_
 refine Xa (wn0 rfl) rfl rfl rfl (fun bX => ?_)
 refine Xa (wn0 rfl) rfl rfl rfl (fun bC => ?_)
 refine Ps (Ps (Ps (Qe (hK1 _ _ _ (Qd fun K2 hK2 => Qd fun K3 hK3 => Qc ?_)))))
 refine Pa (La o56) ?_
 refine Pa (Ca call38 (QbS b v x)) ?_
 refine Pa (XU rfl rfl) (Qe (hK3 _ _ _ ?_))
 refine Qm rfl (fun hc10 => ?_) (fun hc10 => ?_)
 try simp only [dx] at hc10
 refine Qd fun K5 hK5 => Qc (Ps (Ps (Ps (Qe (hK5 _ _ _ (Qi (hret _ _ _ ?_)))))))
 refine Ea results43 (.cons (Qh rfl) (.cons (Qh rfl) (.cons (Qh rfl) .nil))) (ndI b v x D) (by first | exact Hp.le_refl _ | assumption) ?_
 exact ⟨rfl, rfl⟩
 try simp only [dx] at hc10
 refine Qj (hK2 _ _ _ (Qd fun K6 hK6 => Qc ?_))
 refine Pa (La o56) ?_
 refine Pa (YB rfl rfl) ?_
 refine Ra call62 (QeJ b v x D 63 [.pointer (some ⟨bX, 0, none⟩), .pointer (some ⟨bC, 0, none⟩)] [blk bX [.pointer (some ⟨b.x, 0, none⟩)] 56, blk bC [.string (str cmd)] 9] hd) ?_
 rintro r R2 L' hR2 ⟨rfl, rfl⟩
 try simp only [cB]
 refine Ps (Qe (hK6 _ _ _ (Qd fun K7 hK7 => Qd fun K8 hK8 => Qc ?_)))
 refine Pa (La o56) ?_
 refine Pa (Ca call37 ((qL b v x D).eq3 (v' := .bool true) (by rw [hd]))) (Qe (hK8 _ _ _ (Qv rfl (Qd fun K9 hK9 => Qc ?_))))
 refine Ps (Ps (Ps (Qe (hK9 _ _ _ (Qi (hret _ _ _ ?_))))))
 refine Ea results43 (.cons (Qh rfl) (.cons (Qh rfl) (.cons (Qh rfl) .nil))) (ndI b v x D) (by first | exact Hp.le_refl _ | assumption) ?_
 exact ⟨rfl, rfl⟩
theorem Qh2 {R : Hp} (b : NB) (v : NV) (x : ND) (D : DK) (i : Int) (t : Bs) (hd : Xm (x, D) = true) : Tri prog 54 [.pointer (some ⟨b.x, 0, none⟩), .int .u64 i, .string (str t)] R (ndI b v x D) (fun r R' L' => r = .int .i64 3 ∧ L' = ndI b v x D) := by
 refine Qn func54 rfl ntmps54 rfl (fun σ F Q hret hend hpan => ?_)
 try simp only [cB]
 refine Qd fun K1 hK1 => Qc (Ps (Qe (hK1 _ _ _ (Qd fun K2 hK2 => Qp (Qd fun K3 hK3 => Qc ?_)))))
 refine Pm ?_
 refine Pa (Ca call37 ((qL b v x D).eq3 (v' := .bool true) (by rw [hd]))) (Ps (Qe (hK3 _ _ _ (Qv rfl (Qd fun K4 hK4 => Qc ?_)))))
 refine Ps (Qe (hK4 _ _ _ (Qi (hret _ _ _ ?_))))
 refine Ea results54 (.cons (Qh rfl) .nil) (ndI b v x D) le_ ?_
 exact ⟨rfl, rfl⟩
theorem ZJ {x : ND} {D : DK} {f : NS → Bool × NS} (h : Xm (x, D) = true) : Xn (x, D) f = ([], (x, D)) := by unfold Xn; rw [if_pos h]
theorem QlQ {R : Hp} (b : NB) (v : NV) (m : MS) (hw : MW m) (hv : NOk R v m.x) :
  Tri prog 50 [.pointer (some ⟨b.x, 0, none⟩)] R (ndI b v m.x m.D) (fun r R' L' => ∃ v', FrX msgE R' m.tick.2 r ∧ NOk R' v' m.tick.1.x ∧ L' = ndI b v' m.tick.1.x m.tick.1.D) := by
 by_cases hd : Xm (m.x, m.D) = true
 ·refine Tri.mono (Qlg b v m.x m.D hd) (fun r R' L' hR h => ?_) (fun _ _ _ _ h => h)
  obtain ⟨rfl, rfl⟩ := h
  have e : m.tick = (m, []) := by unfold MS.tick MS.act; rw [ZJ hd]; simp only [jd hw.out]
  rw [e]
  exact ⟨v, FrX.nil, hv.mono hR, rfl⟩
 ·refine Tri.mono (QmI b v m.x m.D 0 690000000 (by omega) (hw.up hd) hv hw.ok (by omega)) (fun r R' L' _ h => ?_) (fun _ _ _ _ h => h)
  obtain ⟨v', hr, hv', rfl⟩ := h
  exact ⟨_, hr, hv'.q, rfl⟩
theorem QlS {R : Hp} (b : NB) (v : NV) (m : MS) (g : Msg) (ve : Value) (hw : MW m) (hg : MIm 0 g) (hve : FrX entE R g.es ve) (hv : NOk R v m.x) :
  Tri prog 53 [.pointer (some ⟨b.x, 0, none⟩), .agg ⟨QT g ve⟩] R (ndI b v m.x m.D) (fun r R' L' => ∃ v', FrX msgE R' (m.recv g).2 r ∧ NOk R' v' (m.recv g).1.x ∧ L' = ndI b v' (m.recv g).1.x (m.recv g).1.D) := by
 by_cases hd : Xm (m.x, m.D) = true
 ·refine Tri.mono (Qhw b v m.x m.D g ve hve hd) (fun r R' L' hR h => ?_) (fun _ _ _ _ h => h)
  obtain ⟨rfl, rfl⟩ := h
  have e : m.recv g = (m, []) := by unfold MS.recv MS.act; rw [ZJ hd]; simp only [jd hw.out]
  rw [e]
  exact ⟨v, FrX.nil, hv.mono hR, rfl⟩
 ·refine Tri.mono (QiE b v m.x m.D g ve 0 690000000 (by omega) (hw.up hd) hv hg hve hw.ok (by omega)) (fun r R' L' _ h => ?_) (fun _ _ _ _ h => h)
  obtain ⟨v', hr, hv', rfl⟩ := h
  exact ⟨_, hr, hv'.q, rfl⟩
theorem QlU {R : Hp} (b : NB) (v : NV) (m : MS) (cmd : Bs) (hw : MW m) (hc : cmd.length ≤ 100) (hv : NOk R v m.x) :
  Tri prog 43 [.pointer (some ⟨b.x, 0, none⟩), .string (str cmd)] R (ndI b v m.x m.D) (fun r R' L' => ∃ v' vl, r = QF [.int .u64 (m.prop cmd).1.1, .int .u64 (m.prop cmd).1.2, vl] ∧ FrX msgE R' (m.prop cmd).2.2 vl ∧ NOk R' v' (m.prop cmd).2.1.x ∧ L' = ndI b v' (m.prop cmd).2.1.x (m.prop cmd).2.1.D) := by
 by_cases hd : Xm (m.x, m.D) = true
 ·refine Tri.mono (QhB b v m.x m.D cmd hd) (fun r R' L' hR h => ?_) (fun _ _ _ _ h => h)
  obtain ⟨rfl, rfl⟩ := h
  have e : Xz (m.x, m.D) cmd = ((0, 0, []), (m.x, m.D)) := by
   unfold Xz
   rw [ZJ hd]
   by_cases h : m.x.role = 2
   ·rw [if_neg (by simp [h]), if_pos hd]
   ·rw [if_pos h]
  have e2 : m.prop cmd = ((0, 0), (m, [])) := by unfold MS.prop MS.act; rw [e]; simp only [jd hw.out]
  rw [e2]
  exact ⟨v, _, rfl, FrX.nil, hv.mono hR, rfl⟩
 ·refine Tri.mono (QiL b v m.x m.D cmd 0 690000000 (by omega) (hw.up hd) hv hc hw.ok (by omega)) (fun r R' L' _ h => ?_) (fun _ _ _ _ h => h)
  obtain ⟨vl, v', rfl, hr, hv', rfl⟩ := h
  exact ⟨_, _, rfl, hr, hv'.q, rfl⟩
theorem QlW {R : Hp} (b : NB) (v : NV) (m : MS) (hw : MW m) (hv : NOk R v m.x) :
  Tri prog 54 [.pointer (some ⟨b.x, 0, none⟩), .int .u64 m.ap, .string (str (stB m.l))] R (ndI b v m.x m.D) (fun r R' L' => r = .int .i64 m.comp.1 ∧ ∃ v', NOk R' v' m.comp.2.x ∧ L' = ndI b v' m.comp.2.x m.comp.2.D) := by
 by_cases hd : Xm (m.x, m.D) = true
 ·refine Tri.mono (Qh2 b v m.x m.D _ _ hd) (fun r R' L' hR h => ?_) (fun _ _ _ _ h => h)
  obtain ⟨rfl, rfl⟩ := h
  have e : Ym (m.x, m.D) m.ap (stB m.l) = (3, (m.x, m.D)) := by unfold Ym; rw [if_pos hd]
  have e2 : m.comp = (3, m) := by unfold MS.comp; rw [e]; simp only [jd hw.out]
  rw [e2]
  exact ⟨rfl, v, hv.mono hR, rfl⟩
 ·have hsl := zf hw.l.2 (Nat.le_trans hw.l.1 (by decide))
  have hll := hw.l.1
  have hap := hw.ap
  refine Tri.mono (Qf0 b v m.x m.D m.ap (stB m.l) 0 690000000 (by omega) (hw.up hd) hv (by unfold QM; omega) (by omega) hw.ok) (fun r R' L' _ h => ?_) (fun _ _ _ _ h => h)
  obtain ⟨rfl, v', hv', rfl⟩ := h
  exact ⟨rfl, _, hv'.q, rfl⟩
end V
end Go.Proofs.YtenfjpigffjgmaaGreat
