/- What was given up is answered: guard; a row's value, a group's value, walked. -/
import Derived.Test.YtghgifgmacapcaaT18t
import Derived.Test.YtghgifgmacapcaaV19
set_option linter.unusedSimpArgs false
set_option linter.unusedVariables false
set_option maxRecDepth 100000
namespace Go.Proofs.Ytghgifgmacapcaa
open Go.RowKit
namespace V
set_option maxHeartbeats 4000000
section
variable {c : Cx} {E : Env} {R : Hp} {L : List Asn} {ty : TypeId} {p : String} {af : Array Edge} {g : Option (Nat × Bool)}
theorem y_ineq_nil {d : Option Tmp} {x y : Operand} {t t' u : TypeId} {v : Value} {ms : Array (String × TypeId)} (hT : c.P.underlying t = some (.interface ms)) (e1 : ev E x = some (.iface u v)) (e2 : ev E y = some .nilIface) :
    Yld c E R L ⟨d, .binOp .neq t x y t', ty, p, af, g⟩ (.bool true) := fun a w hf _ => by
  have h : ∀ d : Nat, (Op.equalIn (d + 1) t (.iface u v) .nilIface).run c.P w = .ok false w := fun d => by simp [Op.equalIn, run_underlying hT]
  have h1 : (Op.equalIn Op.maxDepth t (.iface u v) .nilIface).run c.P w = .ok false w := h (Op.maxDepth - 1)
  simp [execOp, hf.ev e1, hf.ev e2, eqGuard, binOp, Op.equal, h1, Oper.quietUpon]
theorem y_ineq_nil0 {d : Option Tmp} {x : Operand} {t t' : TypeId} {ms : Array (String × TypeId)} (hT : c.P.underlying t = some (.interface ms)) (e1 : ev E x = some .nilIface) :
    Yld c E R L ⟨d, .binOp .neq t x (.const .nilIface) t', ty, p, af, g⟩ (.bool false) := fun a w hf _ => by
  have h : ∀ d : Nat, (Op.equalIn (d + 1) t .nilIface .nilIface).run c.P w = .ok true w := fun d => by simp [Op.equalIn, run_underlying hT]
  have h1 : (Op.equalIn Op.maxDepth t .nilIface .nilIface).run c.P w = .ok true w := h (Op.maxDepth - 1)
  simp [execOp, hf.ev e1, hf.ev (x := .const .nilIface) rfl, eqGuard, binOp, Op.equal, h1, Oper.quietUpon]
theorem y_tassert {d : Option Tmp} {x : Operand} {t u : TypeId} {b : Bool} {v r : Value} (hr : ∀ w, (Instr.typeAssert v t u b).run c.P w = .ok r w) (e1 : ev E x = some v) :
    Yld c E R L ⟨d, .typeAssert x t u b, ty, p, af, g⟩ r := fun a w hf _ => by
  simp [execOp, hf.ev e1, hr w, Oper.quietUpon]
theorem cj_wp {x : Code} {Q : Exit → Act → World → Prop} {a : Act} {w : World} (h : CJ c x Q E R L) (hf : Fr c.n E a) (hs : Sat c.σ R L w) : x.wp c.P Q a w := h a w hf hs
end
theorem guard_yes {σ : World} {R : Hp} {L : List Asn} {w : World} (bv be : Nat) (n : Int) {v0 : List Value} {e0 : Value} (hl : v0.length = 3) (hs : Sat σ R (blk bv v0 26 :: blk be [e0] 32 :: L) w) :
    CallsD Try.prog 41 ⟨[.pointer (some ⟨bv, 0, none⟩), .pointer (some ⟨be, 0, none⟩)]⟩ (.panicking [failE n]) w
      (fun e u' w' => (∃ v, e = .returned v) ∧ settle u' = .returning ∧ Sat σ R (blk bv (valC Vl.zero) 26 :: blk be [.int .i64 n] 32 :: L) w') := by
  refine callsD_of_wpS Try.func41 rfl (fun c0 cs hu => ?_)
  rw [show Try.f41.ntmps = 25 from rfl]
  have hf0 := Fr.start (n := 25) (args := [.pointer (some ⟨bv, 0, none⟩), .pointer (some ⟨be, 0, none⟩)]) rfl
  generalize ({ tmps := _, defers := [] } : Act) = a at hf0 ⊢
  have hrec : recOf (c0 :: cs) = (.iface 98 (.agg ⟨[.int .i64 n]⟩), { c0 with mode := .panicking [⟨.iface 98 (.agg ⟨[.int .i64 n]⟩), true, false⟩] } :: cs) := by
    simp only [recOf, recoverD, hu, failE]
  refine wpS_rec hf0 rfl rfl hrec (fun a1 hf1 => ?_)
  clear hf0
  refine wpS_of_wp ?_
  refine cj_wp (c := ⟨Try.prog, 25, σ⟩) ?_ hf1 hs
  refine cj_seq (fun K1 hK1 => ?_)
  refine cj_region ?_
  refine rv0 rfl rfl rfl (y_move rfl) ?_
  refine rv0 rfl rfl rfl ((y_ineq_nil Try.underlying20 rfl rfl)) ?_
  refine rj_nil ?_
  refine hK1 _ _ _ ?_
  refine cj_cond_t rfl ?_
  refine cj_seq (fun K2 hK2 => ?_)
  refine cj_region ?_
  refine rv0 rfl rfl rfl (y_move rfl) ?_
  refine rv0 rfl rfl rfl ((y_tassert (r := .tuple ⟨[.agg ⟨[.int .i64 n]⟩, .bool true]⟩) (fun w => by kernel_rfl) rfl)) ?_
  refine rv0 rfl rfl rfl (y_move rfl) ?_
  refine rv0 rfl rfl rfl (y_extract rfl rfl) ?_
  refine rv0 rfl rfl rfl (y_extract rfl rfl) ?_
  refine rj_alloc (wn0 rfl) rfl Try.zeroValue98 rfl (fun b5 => ?_)
  refine rj_stores ⟨Try.isAgg98, Try.sizeOf98⟩ rfl (wn0 rfl) rfl rfl (by (first | (simp [Value.oneCell']; done) | (intro u hu; simp only [List.mem_cons, List.not_mem_nil, or_false] at hu; rcases hu with rfl | rfl | rfl | rfl <;> first | rfl | assumption))) (by (repeat (first|exact zH _|apply zT));done) (by (simp)) rfl ?_
  refine rv0 rfl rfl rfl (y_assign rfl) ?_
  refine rj_nil ?_
  refine hK2 _ _ _ ?_
  refine cj_env (eL 0 rfl (eL 1 rfl (eL 4 rfl (eL 5 rfl (eL 6 rfl eN))))) ?_
  refine cj_seq (fun K3 hK3 => ?_)
  refine cj_seq (fun K4 hK4 => ?_)
  refine cj_region ?_
  refine rv0 rfl rfl rfl (y_move rfl) ?_
  refine rv0 rfl rfl rfl (y_not rfl) ?_
  refine rj_nil ?_
  refine hK4 _ _ _ ?_
  refine cj_cond_f rfl ?_
  refine cj_skip ?_
  refine hK3 _ _ _ ?_
  refine cj_env (eL 0 rfl (eL 1 rfl (eL 5 rfl eN))) ?_
  refine cj_mixg (L := [blk b5 [.int .i64 n] 98]) [0, 1, 2, 3, 4, 5] [6] [7, 8] _ (by (repeat (first|exact zR _|(apply zP;focus (repeat (first|exact zH _|apply zT)))|apply zD|exact zA _ _))) (by kernel_rfl) (by kernel_rfl) (by kernel_rfl) rfl ?_
  refine fj_val rfl rfl rfl (wn0 rfl) (fun R1 hR1 G => (y_move rfl)) ?_
  refine fj_val rfl rfl rfl (wn0 rfl) (fun R1 hR1 G => (y_move rfl)) ?_
  refine fj_val rfl rfl rfl (wn0 rfl) (fun R1 hR1 G => (y_build (cells := [_, _, _]) [(0, 1), (1, 1), (2, 1)] Try.underlying26 Try.zeroValue26 (fun _ => rfl) rfl rfl)) ?_
  refine fj_val rfl rfl rfl (wn0 rfl) (fun R1 hR1 G => (y_fieldAddr (k := 0) Try.underlying98 rfl (n := 1) (by decide) Try.sizeOf32 rfl)) ?_
  first | refine fj_val rfl rfl rfl (wn0 rfl) (fun R1 hR1 G => (y_load ⟨Try.isAgg32, Try.sizeOf32⟩ rfl (by (repeat (first|exact zH _|apply zT));done) rfl)) ?_ | refine fj_val rfl rfl rfl (wn0 rfl) (fun R1 hR1 G => (y_load_slc ⟨Try.isAgg32, Try.sizeOf32⟩ rfl (by (repeat (first|exact zH _|apply zT));done) rfl)) ?_
  refine fj_val rfl rfl rfl (wn0 rfl) (fun R1 hR1 G => (y_nilCheck rfl)) ?_
  refine fj_nil ?_
  refine xj_rj rfl ?_
  try simp only [List.cons_append, List.nil_append, List.append_nil]
  refine rj_stores_all (vs := valC (Vl.zero)) ⟨Try.isAgg26, Try.sizeOf26⟩ rfl (wn0 rfl) rfl rfl (valE.one (R := R) (x := Vl.zero) rfl) (by (repeat (first|exact zH _|apply zT));done) hl ?_
  refine rj_xk (by (first | exact Hp.le_refl _ | assumption | exact Hp.le_trans ‹_› ‹_›)) (by (repeat (first|exact zR _|(apply zP;focus (repeat (first|exact zH _|apply zT)))|apply zD|exact zA _ _))) ?_
  refine xj_nil ?_
  try simp only [List.cons_append, List.nil_append, List.append_nil]
  refine rv0 rfl rfl rfl (y_nilCheck rfl) ?_
  refine rj_store ⟨Try.isAgg32, Try.sizeOf32⟩ (wn0 rfl) rfl rfl (by (first | rfl | assumption | (apply cutV_one; assumption))) (by (repeat (first|exact zH _|apply zT));done) rfl rfl ?_
  refine rj_nil ?_
  exact fun a w hf hs => ⟨hf.dfs, _, rfl, .tuple ⟨[]⟩, by unfold results; rw [Try.results41]; simp, ⟨_, rfl⟩, rfl, (hs.sub (by (repeat (first|exact zR _|(apply zP;focus (repeat (first|exact zH _|apply zT)))|apply zD|exact zA _ _)))).shrink (by first | exact Hp.le_refl _ | assumption)⟩
theorem guard_no {σ : World} {R : Hp} {L : List Asn} {w : World} (bv be : Nat) (hs : Sat σ R L w) :
    CallsD Try.prog 41 ⟨[.pointer (some ⟨bv, 0, none⟩), .pointer (some ⟨be, 0, none⟩)]⟩ .returning w
      (fun e u' w' => (∃ v, e = .returned v) ∧ settle u' = .returning ∧ Sat σ R L w') := by
  refine callsD_of_wpS Try.func41 rfl (fun c0 cs hu => ?_)
  rw [show Try.f41.ntmps = 25 from rfl]
  have hf0 := Fr.start (n := 25) (args := [.pointer (some ⟨bv, 0, none⟩), .pointer (some ⟨be, 0, none⟩)]) rfl
  generalize ({ tmps := _, defers := [] } : Act) = a at hf0 ⊢
  have hrec : recOf (c0 :: cs) = (.nilIface, c0 :: cs) := by
    simp only [recOf, recoverD, hu]
  have hc0 : c0 = { c0 with mode := .returning } := by rw [← hu]
  refine wpS_rec hf0 rfl rfl hrec (fun a1 hf1 => ?_)
  clear hf0
  refine wpS_of_wp ?_
  refine cj_wp (c := ⟨Try.prog, 25, σ⟩) ?_ hf1 hs
  refine cj_seq (fun K1 hK1 => ?_)
  refine cj_region ?_
  refine rv0 rfl rfl rfl (y_move rfl) ?_
  refine rv0 rfl rfl rfl ((y_ineq_nil0 Try.underlying20 rfl)) ?_
  refine rj_nil ?_
  refine hK1 _ _ _ ?_
  refine cj_cond_f rfl ?_
  refine cj_skip ?_
  exact fun a w hf hs => ⟨hf.dfs, .returning, by rw [← hc0], .tuple ⟨[]⟩, by unfold results; rw [Try.results41]; simp, ⟨_, rfl⟩, rfl, hs.sub (by (repeat (first|exact zR _|(apply zP;focus (repeat (first|exact zH _|apply zT)))|apply zD|exact zA _ _)))⟩
/-- an end behind guard: nothing was given up -/
theorem end_no {n : Nat} {σ : World} {fn : Func} {R R0 : Hp} {F : List Asn} {E : Env} (bv be : Nat) (v : Vl) {a : Act} {w : World} (hr : fn.results = ⟨[.cell 6 26, .cell 7 32]⟩) (hR : R0.le R)
    (e6 : lk E 6 = some (.pointer (some ⟨bv, 0, none⟩))) (e7 : lk E 7 = some (.pointer (some ⟨be, 0, none⟩))) (hf : Fr n E a)
    (hs : Sat σ R (blk bv (valC v) 26 :: blk be [.int .i64 0] 32 :: F) w) :
    tailQ Try.prog fn (EndR σ R0 F (fun u R' L' => u = pairV (.ok v) ∧ L' = []) (fun _ _ _ => False)) { target := .fn (.func 41) #[], args := ⟨[.pointer (some ⟨bv, 0, none⟩), .pointer (some ⟨be, 0, none⟩)]⟩ } .normal a w :=
  ⟨hf.dfs, leaves_one (by simp) Try.call41 (guard_no bv be hs) (fun w' hs' => leaves_ret (c := ⟨Try.prog, n, σ⟩) hr
    (.cons (rv_cells ⟨Try.isAgg26, Try.sizeOf26⟩ e6 (by (repeat (first|exact zH _|apply zT));done) rfl rfl) (.cons (rv_cell ⟨Try.isAgg32, Try.sizeOf32⟩ e7 (by (repeat (first|exact zH _|apply zT));done) rfl) .nil)) R [] hR rfl (by (repeat (first|exact zR _|(apply zP;focus (repeat (first|exact zH _|apply zT)))|apply zD|exact zA _ _))) ⟨rfl, rfl⟩ hf hs')⟩
theorem end_yes {n : Nat} {σ : World} {fn : Func} {R R0 : Hp} {F : List Asn} {E : Env} (bv be : Nat) (k : Int) {v0 : List Value} {e0 : Value} (hl : v0.length = 3) {a : Act} {w : World} (hr : fn.results = ⟨[.cell 6 26, .cell 7 32]⟩) (hR : R0.le R)
    (e6 : lk E 6 = some (.pointer (some ⟨bv, 0, none⟩))) (e7 : lk E 7 = some (.pointer (some ⟨be, 0, none⟩))) (hf : Fr n E a)
    (hs : Sat σ R (blk bv v0 26 :: blk be [e0] 32 :: F) w) :
    tailQ Try.prog fn (EndR σ R0 F (fun u R' L' => u = pairV (.error k) ∧ L' = []) (fun _ _ _ => False)) { target := .fn (.func 41) #[], args := ⟨[.pointer (some ⟨bv, 0, none⟩), .pointer (some ⟨be, 0, none⟩)]⟩ } (.panic [failE k]) a w :=
  ⟨hf.dfs, leaves_one (by simp) Try.call41 (guard_yes bv be k hl hs) (fun w' hs' => leaves_ret (c := ⟨Try.prog, n, σ⟩) hr
    (.cons (rv_cells ⟨Try.isAgg26, Try.sizeOf26⟩ e6 (by (repeat (first|exact zH _|apply zT));done) rfl rfl) (.cons (rv_cell ⟨Try.isAgg32, Try.sizeOf32⟩ e7 (by (repeat (first|exact zH _|apply zT));done) rfl) .nil)) R [] hR rfl (by (repeat (first|exact zR _|(apply zP;focus (repeat (first|exact zH _|apply zT)))|apply zD|exact zA _ _))) ⟨rfl, rfl⟩ hf hs')⟩
theorem Of_q {R : Hp} (x : Ex) (cs : List Value) (cols : List Cl) (vc : Value) (row : List Vl) (vr : Value) (hw : WfX x) (hx : RepX R x cs) (hc : FrX colE R cols vc) (hck : ∀ c ∈ cols, kok c.kind) (hr : FrX valE R row vr) (hin : ∀ v ∈ row, inV v) :
    QTri Try.prog 19 [.agg ⟨cs⟩, vc, vr] R [] (pairV (ofV cols row x)) := by
  obtain ⟨qc, capc, rfl, hcc1, hcc2⟩ := hc.shape
  obtain ⟨qr, capr, rfl, hcr1, hcr2⟩ := hr.shape
  have hxo := hx.one
  have hxl := hx.len
  refine Tri.q2 ?_
  refine tri_of_d Try.func19 rfl Try.ntmps19 rfl (fun σ F Q hret hend hpan hQ => ?_)
  try simp only [List.cons_append, List.nil_append]
  refine cj_env (eL 0 rfl (eL 1 rfl (eL 2 rfl eN))) ?_
  refine cj_seq (fun K1 hK1 => ?_)
  refine cj_region ?_
  refine rj_box (wn0 rfl) rfl rfl rfl (fun b3 => ?_)
  refine rj_alloc (wn0 rfl) rfl Try.zeroValue26 rfl (fun b6 => ?_)
  refine rj_alloc (wn0 rfl) rfl Try.zeroValue32 rfl (fun b7 => ?_)
  refine rj_nil ?_
  refine hK1 _ _ _ ?_
  refine cj_seq (fun K2 hK2 => ?_)
  refine cj_seq (fun K3 hK3 => ?_)
  refine cj_region ?_
  refine rv0 rfl rfl rfl ((y_loads_all (vs := cs) ⟨Try.isAgg29, Try.sizeOf29⟩ hxl rfl (by (repeat (first|exact zH _|apply zT));done))) ?_
  refine rv0 rfl rfl rfl (y_move rfl) ?_
  refine rv0 rfl rfl rfl (y_call Try.call12 rfl (Kind_q x cs cols _ false hw hx hc) (by (repeat (first|exact zN _|(apply zS;focus (repeat (first|exact zH _|apply zT))))))) ?_
  refine rv0 rfl rfl rfl (y_move rfl) ?_
  refine rv0 rfl rfl rfl (y_extract rfl rfl) ?_
  refine rv0 rfl rfl rfl (y_extract rfl rfl) ?_
  refine rv0 rfl rfl rfl (y_assign rfl) ?_
  refine rv0 rfl rfl rfl (y_assign rfl) ?_
  refine rj_nil ?_
  refine hK3 _ _ _ ?_
  refine cj_env (eL 1 rfl (eL 2 rfl (eL 3 rfl (eL 6 rfl (eL 7 rfl (eL 9 rfl eN)))))) ?_
  refine cj_seq (fun K4 hK4 => ?_)
  refine cj_region ?_
  refine rv0 rfl rfl rfl (y_move rfl) ?_
  refine rv0 rfl rfl rfl (y_neq rfl rfl) ?_
  refine rv0 rfl rfl rfl (y_move rfl) ?_
  refine rj_part 18 rfl (fun hg18 => ?_) (fun hg18 => ?_)
  ·have hk : ¬ (kindE cols false x).2 = 0 := by simpa using hg18
   refine rj_skip (wn2 rfl rfl rfl rfl rfl) rfl rfl ?_
   refine rj_skip (wn2 rfl rfl rfl rfl rfl) rfl rfl ?_
   refine rj_skip (wn2 rfl rfl rfl rfl rfl) rfl rfl ?_
   refine rj_skip (wn2 rfl rfl rfl rfl rfl) rfl rfl ?_
   refine rv0 rfl rfl rfl (y_pick_t rfl rfl) ?_
   refine rj_nil ?_
   refine hK4 _ _ _ ?_
   refine cj_env (eL 1 rfl (eL 2 rfl (eL 3 rfl (eL 6 rfl (eL 7 rfl (eL 23 rfl eN)))))) ?_
   refine cj_cond_t rfl ?_
   refine cj_seq (fun K5 hK5 => ?_)
   refine cj_region ?_
   refine rv0 rfl rfl rfl (y_build (cells := [_, _, _]) [(0, 1), (1, 1), (2, 1)] Try.underlying26 Try.zeroValue26 (fun _ => rfl) rfl rfl) ?_
   refine rj_stores_all (vs := valC (Vl.zero)) ⟨Try.isAgg26, Try.sizeOf26⟩ rfl (wn0 rfl) rfl rfl (valE.one (R := R) (x := Vl.zero) rfl) (by (repeat (first|exact zH _|apply zT));done) rfl ?_
   refine rj_store ⟨Try.isAgg32, Try.sizeOf32⟩ (wn0 rfl) rfl rfl (by (first | rfl | assumption | (apply cutV_one; assumption))) (by (repeat (first|exact zH _|apply zT));done) rfl rfl ?_
   refine rj_nil ?_
   refine hK5 _ _ _ ?_
   refine cj_env (eL 6 rfl (eL 7 rfl eN)) ?_
   refine cj_ret ?_
   refine hret _ _ _ ?_
   apply ej_ret Try.results19 (.cons (rv_cells ⟨Try.isAgg26, Try.sizeOf26⟩ rfl (by (repeat (first|exact zH _|apply zT));done) rfl rfl) (.cons (rv_cell ⟨Try.isAgg32, Try.sizeOf32⟩ rfl (by (repeat (first|exact zH _|apply zT));done) rfl) .nil)) _ [] (by (first | exact Hp.le_refl _ | assumption | exact Hp.le_trans ‹_› ‹_›)) rfl
   case hp => refine ⟨?_, rfl⟩; unfold ofV; rw [if_neg (fun h => hk h.1)]; rfl
   case hS => (repeat (first|exact zR _|(apply zP;focus (repeat (first|exact zH _|apply zT)))|apply zD|exact zA _ _))
  ·have hk : (kindE cols false x).2 = 0 := by simpa using hg18
   refine rj_val (wn1 rfl rfl rfl rfl) rfl rfl (y_move rfl) ?_
   refine rj_val (wn1 rfl rfl rfl rfl) rfl rfl (y_move rfl) ?_
   refine rj_val (wn1 rfl rfl rfl rfl) rfl rfl (y_call Try.call40 rfl (right_q cols row _ _ hc hr (fun v hv => (hin v hv).2)) (by (repeat (first|exact zN _|(apply zS;focus (repeat (first|exact zH _|apply zT))))))) ?_
   refine rj_val (wn1 rfl rfl rfl rfl) rfl rfl (y_not rfl) ?_
   refine rv0 rfl rfl rfl (y_pick_f rfl rfl) ?_
   refine rj_nil ?_
   refine hK4 _ _ _ ?_
   refine cj_env (eL 1 rfl (eL 2 rfl (eL 3 rfl (eL 6 rfl (eL 7 rfl (eL 23 rfl eN)))))) ?_
   refine cj_cond rfl (fun hc23 => ?_) (fun hc23 => ?_)
   ·have ha : all2 cols row = false := by simpa using hc23
    refine cj_seq (fun K7 hK7 => ?_)
    refine cj_region ?_
    refine rv0 rfl rfl rfl (y_build (cells := [_, _, _]) [(0, 1), (1, 1), (2, 1)] Try.underlying26 Try.zeroValue26 (fun _ => rfl) rfl rfl) ?_
    refine rj_stores_all (vs := valC (Vl.zero)) ⟨Try.isAgg26, Try.sizeOf26⟩ rfl (wn0 rfl) rfl rfl (valE.one (R := R) (x := Vl.zero) rfl) (by (repeat (first|exact zH _|apply zT));done) rfl ?_
    refine rj_store ⟨Try.isAgg32, Try.sizeOf32⟩ (wn0 rfl) rfl rfl (by (first | rfl | assumption | (apply cutV_one; assumption))) (by (repeat (first|exact zH _|apply zT));done) rfl rfl ?_
    refine rj_nil ?_
    refine hK7 _ _ _ ?_
    refine cj_env (eL 6 rfl (eL 7 rfl eN)) ?_
    refine cj_ret ?_
    refine hret _ _ _ ?_
    apply ej_ret Try.results19 (.cons (rv_cells ⟨Try.isAgg26, Try.sizeOf26⟩ rfl (by (repeat (first|exact zH _|apply zT));done) rfl rfl) (.cons (rv_cell ⟨Try.isAgg32, Try.sizeOf32⟩ rfl (by (repeat (first|exact zH _|apply zT));done) rfl) .nil)) _ [] (by (first | exact Hp.le_refl _ | assumption | exact Hp.le_trans ‹_› ‹_›)) rfl
    case hp => refine ⟨?_, rfl⟩; unfold ofV; rw [if_neg (fun h => by rw [ha] at h; exact absurd h.2 (by simp))]; rfl
    case hS => (repeat (first|exact zR _|(apply zP;focus (repeat (first|exact zH _|apply zT)))|apply zD|exact zA _ _))
   ·have ha : all2 cols row = true := by simpa using hc23
    refine cj_skip ?_
    refine hK2 _ _ _ ?_
    refine cj_defer hQ rfl ?_
    refine rv0 rfl rfl rfl (y_move rfl) ?_
    refine rv0 rfl rfl rfl (y_move rfl) ?_
    refine rj_buildSlice (sz := 1) (wn0 rfl) rfl Try.underlying45 Try.sizeOf43 Try.zeroValue43 rfl rfl rfl (by decide) (by decide) (fun b8 => ?_)
    refine rj_freeze (e := 43) (sz := 1) (n := 1) (xs := [.slice qr row.length capr]) (by (repeat (first|exact zH _|apply zT));done) (fun R2 hR2 hfr1 hxl1 => ?_)
    have hfv := rowFr1 hfr1 (hr.mono hR2)
    have hok : RowsOK cols [row] := ⟨by simp, fun r h => by simp at h; subst h; exact ha, fun r h v hv => by simp at h; subst h; exact (hin v hv).1⟩
    have hof : ofV cols row x = evX vstep gstep cols [row] x := by unfold ofV; rw [if_pos ⟨hk, ha⟩]
    rw [hof]
    refine rv0 rfl rfl rfl (y_build (cells := [_, _]) [(0, 1), (1, 1)] Try.underlying81 Try.zeroValue81 (fun _ => rfl) rfl rfl) ?_
    refine rv0 rfl rfl rfl ((y_loads_all (vs := cs) ⟨Try.isAgg29, Try.sizeOf29⟩ hxl rfl (by (repeat (first|exact zH _|apply zT));done))) ?_
    refine rj_callp (wn0 rfl) rfl Try.call42 rfl (value_p _ x cs cols _ [row] _ false (Nat.le_refl _) hw (hx.mono hR2) (hc.mono hR2) hck hfv hok (kindE_ok hk).1 (fun _ => by simp)) (by (repeat (first|exact zN _|(apply zS;focus (repeat (first|exact zH _|apply zT)))))) (fun e hpe => ?_) (fun u hu => ?_)
    · intro a w hf hs; rw [resV_err hpe]; exact end_yes b6 b7 e rfl Try.results19 hR2 rfl rfl hf (hs.sub (by (repeat (first|exact zR _|(apply zP;focus (repeat (first|exact zH _|apply zT)))|apply zD|exact zA _ _))))
    obtain ⟨v, hv, rfl⟩ := resV_ok hu
    refine rj_stores_all (vs := valC v) ⟨Try.isAgg26, Try.sizeOf26⟩ rfl (wn0 rfl) rfl rfl (valE.one (R := R) (x := v) rfl) (by (repeat (first|exact zH _|apply zT));done) rfl ?_
    refine rj_store ⟨Try.isAgg32, Try.sizeOf32⟩ (wn0 rfl) rfl rfl (by (first | rfl | assumption | (apply cutV_one; assumption))) (by (repeat (first|exact zH _|apply zT));done) rfl rfl ?_
    refine rj_nil ?_
    intro a w hf hs
    rw [hv]
    exact end_no b6 b7 v Try.results19 hR2 rfl rfl hf (hs.sub (by (repeat (first|exact zR _|(apply zP;focus (repeat (first|exact zH _|apply zT)))|apply zD|exact zA _ _))))
theorem All_q {R : Hp} (x : Ex) (cs : List Value) (cols : List Cl) (vc : Value) (rows : List (List Vl)) (vr : Value) (hw : WfX x) (hx : RepX R x cs) (hc : FrX colE R cols vc) (hck : ∀ c ∈ cols, kok c.kind) (hr : FrX rowE R rows vr) (hin : ∀ row ∈ rows, ∀ v ∈ row, inV v) :
    QTri Try.prog 21 [.agg ⟨cs⟩, vc, vr] R [] (pairV (allV cols rows x)) := by
  obtain ⟨qc, capc, rfl, hcc1, hcc2⟩ := hc.shape
  obtain ⟨q, cap, rfl, hcap, hcm⟩ := hr.shape
  have hlb : rows.length ≤ maxLen := Nat.le_trans hcap hcm
  unfold maxLen at hlb
  have hxo := hx.one
  have hxl := hx.len
  refine Tri.q2 ?_
  refine tri_of_d Try.func21 rfl Try.ntmps21 rfl (fun σ F Q hret hend hpan hQ => ?_)
  try simp only [List.cons_append, List.nil_append]
  refine cj_env (eL 0 rfl (eL 1 rfl (eL 2 rfl eN))) ?_
  refine cj_seq (fun K1 hK1 => ?_)
  refine cj_region ?_
  refine rj_box (wn0 rfl) rfl rfl rfl (fun b3 => ?_)
  refine rj_alloc (wn0 rfl) rfl Try.zeroValue26 rfl (fun b6 => ?_)
  refine rj_alloc (wn0 rfl) rfl Try.zeroValue32 rfl (fun b7 => ?_)
  refine rj_nil ?_
  refine hK1 _ _ _ ?_
  refine cj_seq (fun K2 hK2 => ?_)
  refine cj_seq (fun K3 hK3 => ?_)
  refine cj_region ?_
  refine rv0 rfl rfl rfl ((y_loads_all (vs := cs) ⟨Try.isAgg29, Try.sizeOf29⟩ hxl rfl (by (repeat (first|exact zH _|apply zT));done))) ?_
  refine rv0 rfl rfl rfl (y_move rfl) ?_
  refine rv0 rfl rfl rfl (y_call Try.call12 rfl (Kind_q x cs cols _ true hw hx hc) (by (repeat (first|exact zN _|(apply zS;focus (repeat (first|exact zH _|apply zT))))))) ?_
  refine rv0 rfl rfl rfl (y_move rfl) ?_
  refine rv0 rfl rfl rfl (y_extract rfl rfl) ?_
  refine rv0 rfl rfl rfl (y_extract rfl rfl) ?_
  refine rv0 rfl rfl rfl (y_assign rfl) ?_
  refine rv0 rfl rfl rfl (y_assign rfl) ?_
  refine rj_nil ?_
  refine hK3 _ _ _ ?_
  refine cj_env (eL 1 rfl (eL 2 rfl (eL 3 rfl (eL 6 rfl (eL 7 rfl (eL 9 rfl eN)))))) ?_
  refine cj_seq (fun K4 hK4 => ?_)
  refine cj_region ?_
  refine rv0 rfl rfl rfl (y_move rfl) ?_
  refine rv0 rfl rfl rfl (y_neq rfl rfl) ?_
  refine rv0 rfl rfl rfl (y_move rfl) ?_
  refine rj_part 20 rfl (fun hg20 => ?_) (fun hg20 => ?_)
  ·have hk : ¬ (kindE cols true x).2 = 0 := by simpa using hg20
   refine rj_skip (wn2 rfl rfl rfl rfl rfl) rfl rfl ?_
   refine rj_skip (wn2 rfl rfl rfl rfl rfl) rfl rfl ?_
   refine rj_skip (wn2 rfl rfl rfl rfl rfl) rfl rfl ?_
   refine rv0 rfl rfl rfl (y_pick_t rfl rfl) ?_
   refine rj_nil ?_
   refine hK4 _ _ _ ?_
   refine cj_env (eL 1 rfl (eL 2 rfl (eL 3 rfl (eL 6 rfl (eL 7 rfl (eL 24 rfl eN)))))) ?_
   refine cj_cond_t rfl ?_
   refine cj_seq (fun K5 hK5 => ?_)
   refine cj_region ?_
   refine rv0 rfl rfl rfl (y_build (cells := [_, _, _]) [(0, 1), (1, 1), (2, 1)] Try.underlying26 Try.zeroValue26 (fun _ => rfl) rfl rfl) ?_
   refine rj_stores_all (vs := valC (Vl.zero)) ⟨Try.isAgg26, Try.sizeOf26⟩ rfl (wn0 rfl) rfl rfl (valE.one (R := R) (x := Vl.zero) rfl) (by (repeat (first|exact zH _|apply zT));done) rfl ?_
   refine rj_store ⟨Try.isAgg32, Try.sizeOf32⟩ (wn0 rfl) rfl rfl (by (first | rfl | assumption | (apply cutV_one; assumption))) (by (repeat (first|exact zH _|apply zT));done) rfl rfl ?_
   refine rj_nil ?_
   refine hK5 _ _ _ ?_
   refine cj_env (eL 6 rfl (eL 7 rfl eN)) ?_
   refine cj_ret ?_
   refine hret _ _ _ ?_
   apply ej_ret Try.results21 (.cons (rv_cells ⟨Try.isAgg26, Try.sizeOf26⟩ rfl (by (repeat (first|exact zH _|apply zT));done) rfl rfl) (.cons (rv_cell ⟨Try.isAgg32, Try.sizeOf32⟩ rfl (by (repeat (first|exact zH _|apply zT));done) rfl) .nil)) _ [] (by (first | exact Hp.le_refl _ | assumption | exact Hp.le_trans ‹_› ‹_›)) rfl
   case hp => refine ⟨?_, rfl⟩; unfold allV; rw [if_neg (fun h => hk h.1)]; rfl
   case hS => (repeat (first|exact zR _|(apply zP;focus (repeat (first|exact zH _|apply zT)))|apply zD|exact zA _ _))
  ·have hk : (kindE cols true x).2 = 0 := by simpa using hg20
   refine rj_val (wn1 rfl rfl rfl rfl) rfl rfl ((y_loads_all (vs := cs) ⟨Try.isAgg29, Try.sizeOf29⟩ hxl rfl (by (repeat (first|exact zH _|apply zT));done))) ?_
   refine rj_val (wn1 rfl rfl rfl rfl) rfl rfl (y_call Try.call15 rfl (group_q _ x cs (Nat.le_refl _) hx) (by (repeat (first|exact zN _|(apply zS;focus (repeat (first|exact zH _|apply zT))))))) ?_
   refine rj_val (wn1 rfl rfl rfl rfl) rfl rfl (y_not rfl) ?_
   refine rv0 rfl rfl rfl (y_pick_f rfl rfl) ?_
   refine rj_nil ?_
   refine hK4 _ _ _ ?_
   refine cj_env (eL 1 rfl (eL 2 rfl (eL 3 rfl (eL 6 rfl (eL 7 rfl (eL 24 rfl eN)))))) ?_
   refine cj_cond rfl (fun hc24 => ?_) (fun hc24 => ?_)
   ·have hg : grp x = false := by simpa using hc24
    refine cj_seq (fun K7 hK7 => ?_)
    refine cj_region ?_
    refine rv0 rfl rfl rfl (y_build (cells := [_, _, _]) [(0, 1), (1, 1), (2, 1)] Try.underlying26 Try.zeroValue26 (fun _ => rfl) rfl rfl) ?_
    refine rj_stores_all (vs := valC (Vl.zero)) ⟨Try.isAgg26, Try.sizeOf26⟩ rfl (wn0 rfl) rfl rfl (valE.one (R := R) (x := Vl.zero) rfl) (by (repeat (first|exact zH _|apply zT));done) rfl ?_
    refine rj_store ⟨Try.isAgg32, Try.sizeOf32⟩ (wn0 rfl) rfl rfl (by (first | rfl | assumption | (apply cutV_one; assumption))) (by (repeat (first|exact zH _|apply zT));done) rfl rfl ?_
    refine rj_nil ?_
    refine hK7 _ _ _ ?_
    refine cj_env (eL 6 rfl (eL 7 rfl eN)) ?_
    refine cj_ret ?_
    refine hret _ _ _ ?_
    apply ej_ret Try.results21 (.cons (rv_cells ⟨Try.isAgg26, Try.sizeOf26⟩ rfl (by (repeat (first|exact zH _|apply zT));done) rfl rfl) (.cons (rv_cell ⟨Try.isAgg32, Try.sizeOf32⟩ rfl (by (repeat (first|exact zH _|apply zT));done) rfl) .nil)) _ [] (by (first | exact Hp.le_refl _ | assumption | exact Hp.le_trans ‹_› ‹_›)) rfl
    case hp => refine ⟨?_, rfl⟩; unfold allV; rw [if_neg (fun h => by rw [hg] at h; exact absurd h.2.1 (by simp))]; rfl
    case hS => (repeat (first|exact zR _|(apply zP;focus (repeat (first|exact zH _|apply zT)))|apply zD|exact zA _ _))
   ·have hg : grp x = true := by simpa using hc24
    refine cj_skip ?_
    refine hK2 _ _ _ ?_
    refine cj_seq (fun K8 hK8 => ?_)
    refine cj_seq (fun K9 hK9 => ?_)
    refine cj_region ?_
    refine rv0 rfl rfl rfl (y_move rfl) ?_
    first | refine rv0 rfl rfl rfl (y_len_sl Try.underlying45 rfl) ?_ | refine rv0 rfl rfl rfl (y_len_slc Try.underlying45 rfl (by (repeat (first|exact zH _|apply zT));done)) ?_
    refine rv0 rfl rfl rfl (y_move rfl) ?_
    refine rj_nil ?_
    refine hK9 _ _ _ ?_
    refine cj_block ?_
    refine cj_env (E' := (fun (x1 : Nat) => [(1, .slice qc cols.length capc), (2, .slice q rows.length cap), (3, .pointer (some ⟨b3, 0, none⟩)), (6, .pointer (some ⟨b6, 0, none⟩)), (7, .pointer (some ⟨b7, 0, none⟩)), (26, .slice q rows.length cap), (27, .int .i64 (rows.length : Int)), (28, .int .i64 (x1 : Int))]) 0) (eC rfl (eC rfl (eC rfl (eC rfl (eC rfl (eC rfl (eC rfl (eC rfl eN)))))))) ?_
    refine cj_sub (M := (fun (x1 : Nat) => blk b7 [.int .i64 0] 32 :: blk b6 (valC Vl.zero) 26 :: blk b3 cs 29 :: F) 0) (by (repeat (first|exact zR _|(apply zP;focus (repeat (first|exact zH _|apply zT)))|apply zD|exact zA _ _))) ?_
    refine cj_loop (fun (x1 : Nat) => [(1, .slice qc cols.length capc), (2, .slice q rows.length cap), (3, .pointer (some ⟨b3, 0, none⟩)), (6, .pointer (some ⟨b6, 0, none⟩)), (7, .pointer (some ⟨b7, 0, none⟩)), (26, .slice q rows.length cap), (27, .int .i64 (rows.length : Int)), (28, .int .i64 (x1 : Int))]) (fun (x1 : Nat) => R) (fun (x1 : Nat) => blk b7 [.int .i64 0] 32 :: blk b6 (valC Vl.zero) 26 :: blk b3 cs 29 :: F) (fun (x1 : Nat) => x1 ≤ rows.length ∧ (rows.take x1).all (all2 cols) = true) (fun (x1 : Nat) => rows.length - x1) 0 (⟨by simp, by simp⟩) ?_
    rintro i ⟨hi, hall⟩
    try dsimp only
    refine cj_seq (fun K10 hK10 => ?_)
    refine cj_region ?_
    refine rv0 rfl rfl rfl (y_lss rfl rfl) ?_
    refine rj_nil ?_
    refine hK10 _ _ _ ?_
    refine cj_seq (fun K11 hK11 => ?_)
    refine cj_cond rfl (fun hc29 => ?_) (fun hc29 => ?_)
    ·try simp only [dT, dF, nT, nF, tF, fT] at hc29
     refine cj_skip ?_
     refine hK11 _ _ _ ?_
     refine cj_seq (fun K13 hK13 => ?_)
     refine cj_block ?_
     refine cj_seq (fun K14 hK14 => ?_)
     refine cj_region ?_
     obtain ⟨row, hx1⟩ : ∃ row, rows[i]? = some row := ⟨rows[i]'(by (try simp at hc29); omega), by simp⟩
     have hi2 := (List.getElem?_eq_some_iff.1 hx1).1
     have hrm := List.mem_of_getElem? hx1
     obtain ⟨br, orr, cpr, csr, her, ⟨vrow, rfl, hrow⟩, _, hcellr⟩ := hr.at hx1
     obtain ⟨rfl, rfl⟩ : q = some ⟨br, orr, none⟩ ∧ cap = cpr := by cases her; exact ⟨rfl, rfl⟩
     first | refine rv0 rfl rfl rfl (y_indexAddr Try.underlying45 Try.sizeOf43 rfl rfl (by (first | omega | (dsimp only; omega) | (simp; done) | (simp; omega)))) ?_ | refine rv0 rfl rfl rfl (y_index_slc Try.underlying45 Try.sizeOf43 rfl rfl (by (repeat (first|exact zH _|apply zT));done) (by (first | omega | (dsimp only; omega) | (simp; done) | (simp; omega)))) ?_
     refine rv0 rfl rfl rfl ((y_load_ro ⟨Try.isAgg43, Try.sizeOf43⟩ rfl (hcellr 0 _ rfl))) ?_
     refine rv0 rfl rfl rfl (y_assign rfl) ?_
     refine rj_nil ?_
     refine hK14 _ _ _ ?_
     refine cj_env (eL 1 rfl (eL 2 rfl (eL 3 rfl (eL 6 rfl (eL 7 rfl (eL 11 rfl (eL 26 rfl (eL 27 rfl (eL 28 rfl eN))))))))) ?_
     refine cj_seq (fun K15 hK15 => ?_)
     refine cj_region ?_
     refine rv0 rfl rfl rfl (y_move rfl) ?_
     refine rv0 rfl rfl rfl (y_move rfl) ?_
     refine rv0 rfl rfl rfl (y_call Try.call40 rfl (right_q cols row _ vrow hc hrow (fun v hv => (hin row hrm v hv).2)) (by (repeat (first|exact zN _|(apply zS;focus (repeat (first|exact zH _|apply zT))))))) ?_
     refine rv0 rfl rfl rfl (y_not rfl) ?_
     refine rj_nil ?_
     refine hK15 _ _ _ ?_
     refine cj_env (eL 1 rfl (eL 2 rfl (eL 3 rfl (eL 6 rfl (eL 7 rfl (eL 26 rfl (eL 27 rfl (eL 28 rfl (eL 35 rfl eN))))))))) ?_
     refine cj_cond rfl (fun hc35 => ?_) (fun hc35 => ?_)
     ·have ha : all2 cols row = false := by simpa using hc35
      refine cj_seq (fun K17 hK17 => ?_)
      refine cj_region ?_
      refine rv0 rfl rfl rfl (y_build (cells := [_, _, _]) [(0, 1), (1, 1), (2, 1)] Try.underlying26 Try.zeroValue26 (fun _ => rfl) rfl rfl) ?_
      refine rj_stores_all (vs := valC (Vl.zero)) ⟨Try.isAgg26, Try.sizeOf26⟩ rfl (wn0 rfl) rfl rfl (valE.one (R := R) (x := Vl.zero) rfl) (by (repeat (first|exact zH _|apply zT));done) rfl ?_
      refine rj_store ⟨Try.isAgg32, Try.sizeOf32⟩ (wn0 rfl) rfl rfl (by (first | rfl | assumption | (apply cutV_one; assumption))) (by (repeat (first|exact zH _|apply zT));done) rfl rfl ?_
      refine rj_nil ?_
      refine hK17 _ _ _ ?_
      refine cj_env (eL 6 rfl (eL 7 rfl eN)) ?_
      refine cj_ret ?_
      refine hret _ _ _ ?_
      apply ej_ret Try.results21 (.cons (rv_cells ⟨Try.isAgg26, Try.sizeOf26⟩ rfl (by (repeat (first|exact zH _|apply zT));done) rfl rfl) (.cons (rv_cell ⟨Try.isAgg32, Try.sizeOf32⟩ rfl (by (repeat (first|exact zH _|apply zT));done) rfl) .nil)) _ [] (by (first | exact Hp.le_refl _ | assumption | exact Hp.le_trans ‹_› ‹_›)) rfl
      case hp => refine ⟨?_, rfl⟩; unfold allV; rw [if_neg (fun h => by rw [all_not hrm ha] at h; exact absurd h.2.2 (by simp))]; rfl
      case hS => (repeat (first|exact zR _|(apply zP;focus (repeat (first|exact zH _|apply zT)))|apply zD|exact zA _ _))
     ·have ha : all2 cols row = true := by simpa using hc35
      refine cj_skip ?_
      refine hK13 _ _ _ ?_
      refine cj_region ?_
      first | refine rv0 rfl rfl rfl (y_add64 rfl rfl (by (first | omega | (dsimp only; omega) | (simp; done) | (simp; omega)))) ?_ | refine rv0 rfl rfl rfl (y_add rfl rfl) ?_
      refine rv0 rfl rfl rfl (y_move rfl) ?_
      refine rj_nil ?_
      refine ej_on (q' := roundK _ _ _ _ _ _ _) rfl ?_
      refine ej_round (i + 1) (⟨by omega, all_take hall hx1 ha⟩) (by omega) (eC rfl (eC rfl (eC rfl (eC rfl (eC rfl (eC rfl (eC rfl (eC rfl eN)))))))) rfl (by (repeat (first|exact zR _|(apply zP;focus (repeat (first|exact zH _|apply zT)))|apply zD|exact zA _ _)))
    ·try simp only [dT, dF, nT, nF, tF, fT] at hc29
     refine cj_exit ?_
     refine hK8 _ _ _ ?_
     refine cj_env (eL 1 rfl (eL 2 rfl (eL 3 rfl (eL 6 rfl (eL 7 rfl eN))))) ?_
     obtain rfl : i = rows.length := by (try simp at hc29); omega
     rw [List.take_length] at hall
     have hok : RowsOK cols rows := ⟨by omega, fun r h => List.all_eq_true.1 hall r h, fun r h v hv => (hin r h v hv).1⟩
     have hof : allV cols rows x = evX vstep gstep cols rows x := by unfold allV; rw [if_pos ⟨hk, hg, hall⟩]
     refine cj_defer hQ rfl ?_
     rw [hof]
     refine rv0 rfl rfl rfl (y_move rfl) ?_
     refine rv0 rfl rfl rfl (y_move rfl) ?_
     refine rv0 rfl rfl rfl (y_build (cells := [_, _]) [(0, 1), (1, 1)] Try.underlying81 Try.zeroValue81 (fun _ => rfl) rfl rfl) ?_
     refine rv0 rfl rfl rfl ((y_loads_all (vs := cs) ⟨Try.isAgg29, Try.sizeOf29⟩ hxl rfl (by (repeat (first|exact zH _|apply zT));done))) ?_
     refine rj_callp (wn0 rfl) rfl Try.call42 rfl (value_p _ x cs cols _ rows _ true (Nat.le_refl _) hw hx hc hck hr hok (kindE_ok hk).1 (fun hb => ((kindE_ok hk).2 hg hb).elim)) (by (repeat (first|exact zN _|(apply zS;focus (repeat (first|exact zH _|apply zT)))))) (fun e hpe => ?_) (fun u hu => ?_)
     · intro a w hf hs; rw [resV_err hpe]; exact end_yes b6 b7 e rfl Try.results21 (Hp.le_refl _) rfl rfl hf (hs.sub (by (repeat (first|exact zR _|(apply zP;focus (repeat (first|exact zH _|apply zT)))|apply zD|exact zA _ _))))
     obtain ⟨v, hv, rfl⟩ := resV_ok hu
     refine rj_stores_all (vs := valC v) ⟨Try.isAgg26, Try.sizeOf26⟩ rfl (wn0 rfl) rfl rfl (valE.one (R := R) (x := v) rfl) (by (repeat (first|exact zH _|apply zT));done) rfl ?_
     refine rj_store ⟨Try.isAgg32, Try.sizeOf32⟩ (wn0 rfl) rfl rfl (by (first | rfl | assumption | (apply cutV_one; assumption))) (by (repeat (first|exact zH _|apply zT));done) rfl rfl ?_
     refine rj_nil ?_
     intro a w hf hs
     rw [hv]
     exact end_no b6 b7 v Try.results21 (Hp.le_refl _) rfl rfl hf (hs.sub (by (repeat (first|exact zR _|(apply zP;focus (repeat (first|exact zH _|apply zT)))|apply zD|exact zA _ _))))
end V
end Go.Proofs.Ytghgifgmacapcaa
