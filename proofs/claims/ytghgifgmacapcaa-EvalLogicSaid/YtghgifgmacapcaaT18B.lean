/- The law EvalLogic, walked. -/
import Derived.Test.YtghgifgmacapcaaT18C
import Derived.Test.YtghgifgmacapcaaV20
set_option linter.unusedSimpArgs false
set_option linter.unusedVariables false
set_option maxRecDepth 100000
namespace Go.Proofs.Ytghgifgmacapcaa
open Go.RowKit
namespace V
set_option maxHeartbeats 8000000
/-! ### conditions, plain -/
def notV (u : Vl) : Vl := if u.kind = 0 then Vl.zero else truthV (decide (u.n = 0))
structure Cnd (x : Ex) (u : Vl) : Prop where
  wf : WfX x
  k0 : (kindX [] false x).2 = 0
  k2 : ¬ (kindX [] false x).1 = 2
  gr : grp x = false
  ev : evX vstep gstep [] [[]] x = .ok u
  cd : u.kind = 0 ∨ u.kind = 1
theorem Cnd.lit {v : Vl} (h : sndV v) (hc : v.kind = 0 ∨ v.kind = 1) : Cnd (lit v) v := by
  have hk : kindX [] false (V.lit v) = (v.kind, 0) := by simp [kindX, kindsX, V.lit, fam]
  refine ⟨lit_wf h, by rw [hk], by rw [hk]; rcases hc with e | e <;> (simp only; omega), by simp [grp, grpL, V.lit, fam], by rw [V.lit, evX, if_pos rfl], hc⟩
theorem notV_cd (u : Vl) : (notV u).kind = 0 ∨ (notV u).kind = 1 := by unfold notV; split; exact .inl rfl; exact .inr rfl
theorem decV_cd (w : Bool) (u v : Vl) : (decV w u v).kind = 0 ∨ (decV w u v).kind = 1 := (decV_kind w u v).2
theorem Cnd.not {x : Ex} {u : Vl} (h : Cnd x u) : Cnd (.mk .not Vl.zero [] [x]) (notV u) := by
  have hks : kindsX [] false [x] = ([(kindX [] false x).1], 0) := by simp [kindsX, h.k0]
  have hk : kindX [] false (.mk .not Vl.zero [] [x]) = (1, 0) := by
    rw [kindX_step]
    show kstep [] false .not Vl.zero [] (kindsX [] false [x]) = _
    rw [hks]
    unfold kstep
    dsimp only
    rw [if_neg (by decide), if_pos (by decide), if_neg]
    have := h.k2
    simp; omega
  refine ⟨.one rfl h.wf, by rw [hk], by rw [hk]; decide, by simp [grp, grpL, fam, h.gr], ?_, notV_cd u⟩
  rw [evX, if_neg (by decide), if_neg (by decide), if_neg (by decide), if_neg (by decide)]
  simp only [evL, h.ev]
  rw [vstep_not h.cd]
  unfold notV; split <;> rfl
theorem Cnd.two {op : Op} {x y : Ex} {u v : Vl} (ho : op = .or ∨ op = .and) (h : Cnd x u) (k : Cnd y v) : Cnd (.mk op Vl.zero [] [x, y]) (decV (decide (op = .or)) u v) := by
  have hks : kindsX [] false [x, y] = ([(kindX [] false x).1, (kindX [] false y).1], 0) := by simp [kindsX, h.k0, k.k0]
  have h1 : fam op = 1 := by rcases ho with rfl | rfl <;> rfl
  have hk : kindX [] false (.mk op Vl.zero [] [x, y]) = (1, 0) := by
    rw [kindX_step]
    rw [show (false && decide (¬ fam op = 5)) = false from rfl, hks]
    unfold kstep
    dsimp only
    rw [if_neg (by decide), if_pos (.inl h1), if_neg]
    have := h.k2
    have := k.k2
    simp; omega
  refine ⟨.two (by rcases ho with rfl | rfl <;> rfl) h.wf k.wf, by rw [hk], by rw [hk]; decide, by rw [grp, decide_eq_false (by omega)]; simp [grpL, h.gr, k.gr], ?_, decV_cd _ _ _⟩
  rw [evX, if_neg (by rcases ho with rfl | rfl <;> decide), if_neg (by rcases ho with rfl | rfl <;> decide), if_neg (by rcases ho with rfl | rfl <;> decide), if_neg (by omega)]
  simp only [evL, h.ev, k.ev]
  rcases ho with rfl | rfl
  · rw [vstep_or]; rfl
  · rw [vstep_and]; rfl
theorem Cnd.of {x : Ex} {u : Vl} (h : Cnd x u) : ofV [] [] x = .ok u := by
  have hE : (kindE [] false x).2 = 0 := by
    unfold kindE
    dsimp only
    rw [h.gr, if_neg (by simp)]
    exact h.k0
  unfold ofV
  rw [if_pos ⟨hE, rfl⟩]
  exact h.ev
def orO : Op := .or
theorem cnd_cases {u : Vl} (hv : isV u = true) (h : u.kind = 0 ∨ u.kind = 1) : u = Vl.zero ∨ ∃ n, u = ⟨1, n, []⟩ := by
  obtain ⟨k, n, s⟩ := u
  simp only at h
  rcases h with rfl | rfl
  · unfold isV at hv; simp at hv; obtain ⟨rfl, rfl⟩ := hv; exact .inl rfl
  · unfold isV at hv; simp at hv; subst hv; exact .inr ⟨n, rfl⟩
theorem dm_or {a b : Vl} (ha : isV a = true) (hb : isV b = true) (ca : a.kind = 0 ∨ a.kind = 1) (cb : b.kind = 0 ∨ b.kind = 1) : notV (decV true a b) = decV false (notV a) (notV b) := by
  rcases cnd_cases ha ca with rfl | ⟨n, rfl⟩ <;> rcases cnd_cases hb cb with rfl | ⟨m, rfl⟩
  · decide
  · by_cases hm : m = 0 <;> simp [notV, decV, trueV, truthV, Vl.zero, hm]
  · by_cases hn : n = 0 <;> simp [notV, decV, trueV, truthV, Vl.zero, hn]
  · by_cases hn : n = 0 <;> by_cases hm : m = 0 <;> simp [notV, decV, trueV, truthV, Vl.zero, hn, hm]
theorem dm_and {a b : Vl} (ha : isV a = true) (hb : isV b = true) (ca : a.kind = 0 ∨ a.kind = 1) (cb : b.kind = 0 ∨ b.kind = 1) : notV (decV false a b) = decV true (notV a) (notV b) := by
  rcases cnd_cases ha ca with rfl | ⟨n, rfl⟩ <;> rcases cnd_cases hb cb with rfl | ⟨m, rfl⟩
  · decide
  · by_cases hm : m = 0 <;> simp [notV, decV, trueV, truthV, Vl.zero, hm]
  · by_cases hn : n = 0 <;> simp [notV, decV, trueV, truthV, Vl.zero, hn]
  · by_cases hn : n = 0 <;> by_cases hm : m = 0 <;> simp [notV, decV, trueV, truthV, Vl.zero, hn, hm]
theorem or_swap {a b : Vl} (ha : isV a = true) (hb : isV b = true) (ca : a.kind = 0 ∨ a.kind = 1) (cb : b.kind = 0 ∨ b.kind = 1) : decV true a b = decV true b a := by
  rcases cnd_cases ha ca with rfl | ⟨n, rfl⟩ <;> rcases cnd_cases hb cb with rfl | ⟨m, rfl⟩
  · decide
  · by_cases hm : m = 0 <;> simp [decV, trueV, truthV, Vl.zero, hm]
  · by_cases hn : n = 0 <;> simp [decV, trueV, truthV, Vl.zero, hn]
  · by_cases hn : n = 0 <;> by_cases hm : m = 0 <;> simp [decV, trueV, truthV, Vl.zero, hn, hm]
theorem not_not {a : Vl} (ha : isV a = true) (ca : a.kind = 0 ∨ a.kind = 1) : trueV (notV (notV a)) = trueV a := by
  rcases cnd_cases ha ca with rfl | ⟨n, rfl⟩
  · decide
  · by_cases hn : n = 0 <;> simp [notV, trueV, truthV, Vl.zero, hn]
theorem not_null (a : Vl) : (decide ((notV a).kind = 0) == decide (a.kind = 0)) = true := by
  unfold notV
  by_cases h : a.kind = 0
  · rw [if_pos h]; simp [h, Vl.zero]
  · rw [if_neg h]; simp [h, truthV]
/-! ### the closures -/
theorem not_t {R : Hp} {x : Ex} {cs : List Value} (hx : RepX R x cs) : Tri Try.prog 28 [.agg ⟨cs⟩] R [] (fun u R' L' => ∃ vk, u = .agg ⟨exC Op.not.str Vl.zero [] vk⟩ ∧ RepX R' (.mk .not Vl.zero [] [x]) (exC Op.not.str Vl.zero [] vk) ∧ L' = []) := by
  obtain ⟨op, v, name, kids, vk, rfl, rfl, hk⟩ := hx.inv
  obtain ⟨qk, capk, rfl, _, _⟩ := hk.shape
  refine tri_of Try.func28 rfl Try.ntmps28 rfl (fun σ F Q hret hend hpan => ?_)
  try simp only [List.cons_append, List.nil_append]
  refine cj_env (eL 0 rfl eN) ?_
  refine cj_seq (fun K1 hK1 => ?_)
  refine cj_region ?_
  refine rj_box (wn0 rfl) rfl rfl rfl (fun b1 => ?_)
  refine rj_alloc (wn0 rfl) rfl Try.zeroValue29 rfl (fun b2 => ?_)
  refine rj_nil ?_
  refine hK1 _ _ _ ?_
  refine cj_seq (fun K2 hK2 => ?_)
  refine cj_region ?_
  refine rv0 rfl rfl rfl ((y_loads_all (vs := exC op.str v name (.slice qk kids.length capk)) ⟨Try.isAgg29, Try.sizeOf29⟩ rfl rfl (by (repeat (first|exact zH _|apply zT));done))) ?_
  refine rj_buildSlice (sz := 6) (wn0 rfl) rfl Try.underlying27 Try.sizeOf29 Try.zeroValue29 rfl rfl rfl (by decide) (by decide) (fun bk => ?_)
  refine rj_freeze (e := 29) (sz := 6) (n := 1) (xs := exC op.str v name (.slice qk kids.length capk)) (by (repeat (first|exact zH _|apply zT));done) (fun R1 hR1 hfr1 hxl1 => ?_)
  have hkids := kidsFr1 hfr1 (hx.mono hR1)
  refine rv0 rfl rfl rfl (y_build (cells := [_, _, _, _, _, _]) [(0, 1), (1, 3), (4, 1), (5, 1)] Try.underlying29 Try.zeroValue29 (fun _ => rfl) rfl rfl) ?_
  refine rj_stores_all (vs := exC Op.not.str Vl.zero [] (.slice (some ⟨bk, 0, none⟩) 1 1)) ⟨Try.isAgg29, Try.sizeOf29⟩ rfl (wn0 rfl) rfl rfl (RepX.one (R := R1) (x := .mk .not Vl.zero [] [.mk op v name kids]) (RepX.of hkids)) (by (repeat (first|exact zH _|apply zT));done) rfl ?_
  refine rj_nil ?_
  refine hK2 _ _ _ ?_
  refine cj_env (eL 2 rfl eN) ?_
  refine cj_ret ?_
  refine hret _ _ _ ?_
  apply ej_ret Try.results28 (.cons (rv_cells ⟨Try.isAgg29, Try.sizeOf29⟩ rfl (by (repeat (first|exact zH _|apply zT));done) rfl rfl) .nil) _ [] hR1 rfl
  case hp => exact ⟨_, rfl, RepX.of hkids, rfl⟩
  case hS => (repeat (first|exact zR _|(apply zP;focus (repeat (first|exact zH _|apply zT)))|apply zD|exact zA _ _))
theorem two_t {R : Hp} (o : Op) {x y : Ex} {cx cy : List Value} (hx : RepX R x cx) (hy : RepX R y cy) : Tri Try.prog 29 [.string (str o.str), .agg ⟨cx⟩, .agg ⟨cy⟩] R [] (fun u R' L' => ∃ vk, u = .agg ⟨exC o.str Vl.zero [] vk⟩ ∧ RepX R' (.mk o Vl.zero [] [x, y]) (exC o.str Vl.zero [] vk) ∧ L' = []) := by
  obtain ⟨op, v, name, kids, vk, rfl, rfl, hk⟩ := hx.inv
  obtain ⟨op2, v2, name2, kids2, vk2, rfl, rfl, hk2⟩ := hy.inv
  obtain ⟨qk, capk, rfl, _, _⟩ := hk.shape
  obtain ⟨qk2, capk2, rfl, _, _⟩ := hk2.shape
  refine tri_of Try.func29 rfl Try.ntmps29 rfl (fun σ F Q hret hend hpan => ?_)
  try simp only [List.cons_append, List.nil_append]
  refine cj_env (eL 0 rfl (eL 1 rfl (eL 2 rfl eN))) ?_
  refine cj_seq (fun K1 hK1 => ?_)
  refine cj_region ?_
  refine rj_box (wn0 rfl) rfl rfl rfl (fun b4 => ?_)
  refine rj_box (wn0 rfl) rfl rfl rfl (fun b5 => ?_)
  refine rj_alloc (wn0 rfl) rfl Try.zeroValue29 rfl (fun b6 => ?_)
  refine rj_nil ?_
  refine hK1 _ _ _ ?_
  refine cj_seq (fun K2 hK2 => ?_)
  refine cj_region ?_
  refine rv0 rfl rfl rfl (y_move rfl) ?_
  refine rv0 rfl rfl rfl ((y_loads_all (vs := exC op.str v name (.slice qk kids.length capk)) ⟨Try.isAgg29, Try.sizeOf29⟩ rfl rfl (by (repeat (first|exact zH _|apply zT));done))) ?_
  refine rv0 rfl rfl rfl ((y_loads_all (vs := exC op2.str v2 name2 (.slice qk2 kids2.length capk2)) ⟨Try.isAgg29, Try.sizeOf29⟩ rfl rfl (by (repeat (first|exact zH _|apply zT));done))) ?_
  refine rj_buildSlice (sz := 6) (wn0 rfl) rfl Try.underlying27 Try.sizeOf29 Try.zeroValue29 rfl rfl rfl (by decide) (by decide) (fun bk => ?_)
  refine rj_freeze (e := 29) (sz := 6) (n := 2) (xs := exC op.str v name (.slice qk kids.length capk) ++ exC op2.str v2 name2 (.slice qk2 kids2.length capk2)) (by (repeat (first|exact zH _|apply zT));done) (fun R1 hR1 hfr1 hxl1 => ?_)
  have hkids := kidsFr2 hfr1 (hx.mono hR1) (hy.mono hR1)
  refine rv0 rfl rfl rfl (y_build (cells := [_, _, _, _, _, _]) [(0, 1), (1, 3), (4, 1), (5, 1)] Try.underlying29 Try.zeroValue29 (fun _ => rfl) rfl rfl) ?_
  refine rj_stores_all (vs := exC o.str Vl.zero [] (.slice (some ⟨bk, 0, none⟩) 2 2)) ⟨Try.isAgg29, Try.sizeOf29⟩ rfl (wn0 rfl) rfl rfl (RepX.one (R := R1) (x := .mk o Vl.zero [] [.mk op v name kids, .mk op2 v2 name2 kids2]) (RepX.of hkids)) (by (repeat (first|exact zH _|apply zT));done) rfl ?_
  refine rj_nil ?_
  refine hK2 _ _ _ ?_
  refine cj_env (eL 6 rfl eN) ?_
  refine cj_ret ?_
  refine hret _ _ _ ?_
  apply ej_ret Try.results29 (.cons (rv_cells ⟨Try.isAgg29, Try.sizeOf29⟩ rfl (by (repeat (first|exact zH _|apply zT));done) rfl rfl) .nil) _ [] hR1 rfl
  case hp => exact ⟨_, rfl, RepX.of hkids, rfl⟩
  case hS => (repeat (first|exact zR _|(apply zP;focus (repeat (first|exact zH _|apply zT)))|apply zD|exact zA _ _))
theorem v_q {R : Hp} {x : Ex} {u : Vl} {cs : List Value} (h : Cnd x u) (hx : RepX R x cs) : QTri Try.prog 30 [.agg ⟨cs⟩] R [] (.agg ⟨valC u⟩) := by
  have hxo := hx.one
  have hxl := hx.len
  refine Tri.q2 ?_
  refine tri_of Try.func30 rfl Try.ntmps30 rfl (fun σ F Q hret hend hpan => ?_)
  try simp only [List.cons_append, List.nil_append]
  refine cj_env (eL 0 rfl eN) ?_
  refine cj_seq (fun K1 hK1 => ?_)
  refine cj_region ?_
  refine rj_box (wn0 rfl) rfl rfl rfl (fun b1 => ?_)
  refine rj_alloc (wn0 rfl) rfl Try.zeroValue26 rfl (fun b2 => ?_)
  refine rj_nil ?_
  refine hK1 _ _ _ ?_
  refine cj_seq (fun K2 hK2 => ?_)
  refine cj_region ?_
  refine rv0 rfl rfl rfl ((y_loads_all (vs := cs) ⟨Try.isAgg29, Try.sizeOf29⟩ hxl rfl (by (repeat (first|exact zH _|apply zT));done))) ?_
  refine rv0 rfl rfl rfl (y_call Try.call19 rfl ((Of_q x cs [] (.slice none 0 0) [] (.slice none 0 0) h.wf hx FrX.nil (fun c hc => by simp at hc) FrX.nil (fun v hv => by simp at hv)).eq (congrArg pairV h.of)) (by (repeat (first|exact zN _|(apply zS;focus (repeat (first|exact zH _|apply zT))))))) ?_
  refine rv0 rfl rfl rfl (y_move rfl) ?_
  refine rv0 rfl rfl rfl (y_extract rfl rfl) ?_
  refine rv0 rfl rfl rfl (y_extract rfl rfl) ?_
  refine rj_alloc (wn0 rfl) rfl Try.zeroValue26 rfl (fun b3 => ?_)
  refine rj_stores_all (vs := valC (u)) ⟨Try.isAgg26, Try.sizeOf26⟩ rfl (wn0 rfl) rfl rfl (valE.one (R := R) (x := u) rfl) (by (repeat (first|exact zH _|apply zT));done) rfl ?_
  refine rv0 rfl rfl rfl (y_assign rfl) ?_
  refine rj_nil ?_
  refine hK2 _ _ _ ?_
  refine cj_env (eL 2 rfl (eL 3 rfl eN)) ?_
  refine cj_seq (fun K3 hK3 => ?_)
  refine cj_region ?_
  refine rv0 rfl rfl rfl ((y_loads_all (vs := valC u) ⟨Try.isAgg26, Try.sizeOf26⟩ rfl rfl (by (repeat (first|exact zH _|apply zT));done))) ?_
  refine rj_stores_all (vs := valC (u)) ⟨Try.isAgg26, Try.sizeOf26⟩ rfl (wn0 rfl) rfl rfl (valE.one (R := R) (x := u) rfl) (by (repeat (first|exact zH _|apply zT));done) rfl ?_
  refine rj_nil ?_
  refine hK3 _ _ _ ?_
  refine cj_ret ?_
  refine hret _ _ _ ?_
  apply ej_ret Try.results30 (.cons (rv_cells ⟨Try.isAgg26, Try.sizeOf26⟩ rfl (by (repeat (first|exact zH _|apply zT));done) rfl rfl) .nil) _ [] (by (first | exact Hp.le_refl _ | assumption | exact Hp.le_trans ‹_› ‹_›)) rfl
  case hp => exact ⟨rfl, rfl⟩
  case hS => (repeat (first|exact zR _|(apply zP;focus (repeat (first|exact zH _|apply zT)))|apply zD|exact zA _ _))
theorem evalLogic_t {R : Hp} (c0 : List Value) (zs : List (Int × Int × List UInt8)) (h0 : arrR 2 3 vlR R c0 zs) :
    Tri Try.prog 7 [.agg ⟨c0⟩] R [] (fun v _ _ => v = .bool true) := by
  obtain ⟨rfl, hll, hin⟩ := vals_in h0
  generalize zs.map vlOf = l at hll hin
  obtain ⟨a, b, rfl⟩ := len2 hll
  refine tri_of Try.func7 rfl Try.ntmps7 rfl (fun σ F Q hret hend hpan => ?_)
  try simp only [List.cons_append, List.nil_append]
  refine cj_env (eL 0 rfl eN) ?_
  refine cj_seq (fun K1 hK1 => ?_)
  refine cj_region ?_
  refine rj_box (wn0 rfl) rfl rfl rfl (fun b1 => ?_)
  refine rv0 rfl rfl rfl (y_assign rfl) ?_
  refine rj_nil ?_
  refine hK1 _ _ _ ?_
  refine cj_seq (fun K2 hK2 => ?_)
  refine cj_seq (fun K3 hK3 => ?_)
  refine cj_region ?_
  refine rj_call (wn0 rfl) rfl Try.call10 rfl (awake_t) (by (repeat (first|exact zN _|(apply zS;focus (repeat (first|exact zH _|apply zT)))))) (fun _ _ _ _ h => h.elim) ?_
  rintro v R0 L' hR0 ⟨rfl, rfl⟩
  try simp only [List.cons_append, List.nil_append]
  refine rv0 rfl rfl rfl (y_not rfl) ?_
  refine rj_nil ?_
  refine hK3 _ _ _ ?_
  refine cj_env (eL 1 rfl (eL 10 rfl eN)) ?_
  refine cj_cond_f rfl ?_
  refine cj_skip ?_
  refine hK2 _ _ _ ?_
  refine cj_seq (fun K4 hK4 => ?_)
  refine cj_seq (fun K5 hK5 => ?_)
  refine cj_region ?_
  refine rv0 rfl rfl rfl (y_move rfl) ?_
  refine rj_nil ?_
  refine hK5 _ _ _ ?_
  refine cj_block ?_
  refine cj_env (E' := (fun (x : Nat) => [(1, .pointer (some ⟨b1, 0, none⟩)), (11, .int .i64 (x : Int))]) 0) (eC rfl (eC rfl eN)) ?_
  refine cj_sub (M := (fun (x : Nat) => blk b1 (valsC [a, b]) 57 :: F) 0) (by (repeat (first|exact zR _|(apply zP;focus (repeat (first|exact zH _|apply zT)))|apply zD|exact zA _ _))) ?_
  refine cj_loop (fun (x : Nat) => [(1, .pointer (some ⟨b1, 0, none⟩)), (11, .int .i64 (x : Int))]) (fun (x : Nat) => R0) (fun (x : Nat) => blk b1 (valsC [a, b]) 57 :: F) (fun (x : Nat) => x ≤ 2 ∧ (([a, b] : List Vl).take x).all (fun v => isV v && !decide (v.kind = 2)) = true) (fun (x : Nat) => 2 - x) 0 (⟨by simp, by simp⟩) ?_
  rintro i ⟨hi, hok⟩
  try dsimp only
  refine cj_seq (fun K6 hK6 => ?_)
  refine cj_region ?_
  refine rv0 rfl rfl rfl (y_lss rfl rfl) ?_
  refine rj_nil ?_
  refine hK6 _ _ _ ?_
  refine cj_seq (fun K7 hK7 => ?_)
  refine cj_cond rfl (fun hc12 => ?_) (fun hc12 => ?_)
  ·try simp only [dT, dF, nT, nF, tF, fT] at hc12
   refine cj_skip ?_
   refine hK7 _ _ _ ?_
   refine cj_seq (fun K9 hK9 => ?_)
   refine cj_block ?_
   refine cj_seq (fun K10 hK10 => ?_)
   refine cj_region ?_
   have hi2 : i < 2 := by (try simp at hc12); omega
   obtain ⟨v, hv⟩ : ∃ v, ([a, b] : List Vl)[i]? = some v := ⟨_, List.getElem?_eq_getElem (by simpa using hi2)⟩
   have hvi := hin v (List.mem_of_getElem? hv)
   refine rv0 rfl rfl rfl (y_move rfl) ?_
   refine rv0 rfl rfl rfl (y_assign rfl) ?_
   refine rj_nil ?_
   refine hK10 _ _ _ ?_
   refine cj_seq (fun K11 hK11 => ?_)
   refine cj_region ?_
   refine rv0 rfl rfl rfl (y_move rfl) ?_
   refine rv0 rfl rfl rfl ((y_indexAddr_arr Try.underlying57 Try.sizeOf26 rfl rfl (by omega))) ?_
   refine rv0 rfl rfl rfl ((y_loads_blk (vs := valC v) ⟨Try.isAgg26, Try.sizeOf26⟩ rfl (by (repeat (first|exact zH _|apply zT));done) (by simpa using valsC_at hv) rfl)) ?_
   refine rv0 rfl rfl rfl (y_call Try.call23 rfl (is_q v hvi.2) (by (repeat (first|exact zN _|(apply zS;focus (repeat (first|exact zH _|apply zT))))))) ?_
   refine rv0 rfl rfl rfl (y_not rfl) ?_
   refine rv0 rfl rfl rfl (y_move rfl) ?_
   refine rj_part 19 rfl (fun hg19 => ?_) (fun hg19 => ?_)
   ·try simp only [dT, dF, nT, nF, tF, fT] at hg19
    refine rj_skip (wn2 rfl rfl rfl rfl rfl) rfl rfl ?_
    refine rj_skip (wn2 rfl rfl rfl rfl rfl) rfl rfl ?_
    refine rj_skip (wn2 rfl rfl rfl rfl rfl) rfl rfl ?_
    refine rj_skip (wn2 rfl rfl rfl rfl rfl) rfl rfl ?_
    refine rj_skip (wn2 rfl rfl rfl rfl rfl) rfl rfl ?_
    refine rv0 rfl rfl rfl (y_pick_t rfl rfl) ?_
    refine rj_nil ?_
    refine hK11 _ _ _ ?_
    refine cj_env (eL 1 rfl (eL 11 rfl (eL 25 rfl eN))) ?_
    refine cj_cond_t rfl ?_
    refine cj_seq (fun K12 hK12 => ?_)
    refine cj_region ?_
    refine rv0 rfl rfl rfl (y_assign rfl) ?_
    refine rj_nil ?_
    refine hK12 _ _ _ ?_
    refine cj_env (eL 2 rfl eN) ?_
    refine cj_ret ?_
    refine hret _ _ _ ?_
    apply ej_ret Try.results7 (.cons (rv_tmp rfl) .nil) _ [] (by first | exact hR0 | exact (Hp.le_trans (Hp.le_trans (Hp.le_trans (Hp.le_trans (Hp.le_trans (Hp.le_trans (Hp.le_trans (Hp.le_trans (Hp.le_trans (Hp.le_trans (Hp.le_trans (Hp.le_trans (Hp.le_trans (Hp.le_trans (Hp.le_trans hR0 hQ1) hQ2) hQ3) hQ4) hQ5) hQ6) hQ7) hQ8) hQ9) hQ10) hQ11) hQ12) hQ13) hQ14) hQ15)) rfl
    case hp => rfl
    case hS => (repeat (first|exact zR _|(apply zP;focus (repeat (first|exact zH _|apply zT)))|apply zD|exact zA _ _))
   ·have hvv : isV v = true := by simpa using hg19
    refine rj_val (wn1 rfl rfl rfl rfl) rfl rfl (y_move rfl) ?_
    refine rj_val (wn1 rfl rfl rfl rfl) rfl rfl ((y_indexAddr_arr Try.underlying57 Try.sizeOf26 rfl rfl (by omega))) ?_
    refine rj_val (wn1 rfl rfl rfl rfl) rfl rfl (y_fieldAddr (k := 0) Try.underlying26 rfl (n := 1) (by decide) Try.sizeOf3 rfl) ?_
    refine rj_val (wn1 rfl rfl rfl rfl) rfl rfl ((y_load ⟨Try.isAgg3, Try.sizeOf3⟩ rfl (by (repeat (first|exact zH _|apply zT));done) (by simpa using valsC_nth (j := 0) hv rfl))) ?_
    refine rj_val (wn1 rfl rfl rfl rfl) rfl rfl (y_eql rfl rfl) ?_
    refine rv0 rfl rfl rfl (y_pick_f rfl rfl) ?_
    refine rj_nil ?_
    refine hK11 _ _ _ ?_
    refine cj_env (eL 1 rfl (eL 11 rfl (eL 25 rfl eN))) ?_
    refine cj_cond rfl (fun hc25 => ?_) (fun hc25 => ?_)
    ·try simp only [dT, dF, nT, nF, tF, fT] at hc25
     refine cj_seq (fun K14 hK14 => ?_)
     refine cj_region ?_
     refine rv0 rfl rfl rfl (y_assign rfl) ?_
     refine rj_nil ?_
     refine hK14 _ _ _ ?_
     refine cj_env (eL 2 rfl eN) ?_
     refine cj_ret ?_
     refine hret _ _ _ ?_
     apply ej_ret Try.results7 (.cons (rv_tmp rfl) .nil) _ [] (by first | exact hR0 | exact (Hp.le_trans (Hp.le_trans (Hp.le_trans (Hp.le_trans (Hp.le_trans (Hp.le_trans (Hp.le_trans (Hp.le_trans (Hp.le_trans (Hp.le_trans (Hp.le_trans (Hp.le_trans (Hp.le_trans (Hp.le_trans (Hp.le_trans hR0 hQ1) hQ2) hQ3) hQ4) hQ5) hQ6) hQ7) hQ8) hQ9) hQ10) hQ11) hQ12) hQ13) hQ14) hQ15)) rfl
     case hp => rfl
     case hS => (repeat (first|exact zR _|(apply zP;focus (repeat (first|exact zH _|apply zT)))|apply zD|exact zA _ _))
    ·have hv2 : ¬ v.kind = 2 := by simpa using hc25
     refine cj_skip ?_
     refine hK9 _ _ _ ?_
     refine cj_region ?_
     first | refine rv0 rfl rfl rfl (y_add64 rfl rfl (by (first | omega | (dsimp only; omega) | (simp; done) | (simp; omega)))) ?_ | refine rv0 rfl rfl rfl (y_add rfl rfl) ?_
     refine rv0 rfl rfl rfl (y_move rfl) ?_
     refine rj_nil ?_
     refine ej_on (q' := roundK _ _ _ _ _ _ _) rfl ?_
     refine ej_round (i + 1) (⟨by omega, all_take hok hv (by simp [hvv, hv2])⟩) (by omega) (eC rfl (eC rfl eN)) rfl (by (repeat (first|exact zR _|(apply zP;focus (repeat (first|exact zH _|apply zT)))|apply zD|exact zA _ _)))
  ·try simp only [dT, dF, nT, nF, tF, fT] at hc12
   refine cj_exit ?_
   refine hK4 _ _ _ ?_
   refine cj_seq (fun K15 hK15 => ?_)
   have hJ10 : ∀ (x : Nat × Nat), (isV a = true ∧ (a.kind = 0 ∨ a.kind = 1)) ∧ isV b = true ∧ (b.kind = 0 ∨ b.kind = 1) → EJ ⟨Try.prog, 116, σ⟩ K15 [(1, .pointer (some ⟨b1, 0, none⟩)), (4, .pointer (some ⟨x.1, 0, none⟩)), (5, .pointer (some ⟨x.2, 0, none⟩))] R0 (blk x.1 (exC Op.val.str a [] (.slice none 0 0)) 29 :: blk x.2 (exC Op.val.str b [] (.slice none 0 0)) 29 :: blk b1 (valsC [a, b]) 57 :: F) := by
    rintro ⟨b4, b5⟩ ⟨⟨va, ca⟩, vb, cb⟩
    try dsimp only
    refine hK15 _ _ _ ?_
    refine cj_seq (fun K16 hK16 => ?_)
    refine cj_region ?_
    refine rv0 rfl rfl rfl (y_assign rfl) ?_
    refine rj_nil ?_
    refine hK16 _ _ _ ?_
    refine cj_seq (fun K17 hK17 => ?_)
    refine cj_region ?_
    refine rv0 rfl rfl rfl (y_assign rfl) ?_
    refine rj_nil ?_
    refine hK17 _ _ _ ?_
    refine cj_seq (fun K18 hK18 => ?_)
    refine cj_region ?_
    refine rv0 rfl rfl rfl (y_assign rfl) ?_
    refine rj_nil ?_
    refine hK18 _ _ _ ?_
    refine cj_seq (fun K19 hK19 => ?_)
    have CA : Cnd (lit a) a := .lit ⟨va, (hin a (by simp)).1⟩ ca
    have CB : Cnd (lit b) b := .lit ⟨vb, (hin b (by simp)).1⟩ cb
    have CO := Cnd.two (op := .or) (.inl rfl) CA CB
    have CN := Cnd.two (op := .and) (.inr rfl) CA CB
    have CS := Cnd.two (op := .or) (.inl rfl) CB CA
    refine cj_seg (L := [blk b4 (exC Op.val.str a [] (.slice none 0 0)) 29, blk b5 (exC Op.val.str b [] (.slice none 0 0)) 29, blk b1 (valsC [a, b]) 57]) [0, 1, 2, 3, 4, 7, 8, 9, 10, 11, 13, 14, 17, 18, 19, 20, 21, 22, 23, 24, 27, 28, 29, 30, 31, 33, 34, 37, 38, 39, 40, 41, 42, 43, 44, 46, 47, 48, 49, 50, 52, 53, 54, 55, 56, 57, 58, 59, 62, 63, 64, 65, 66, 67, 68, 69, 70, 71, 72, 74, 75, 76, 77, 78, 79, 80, 81, 82, 83] [0, 1, 2, 3, 4, 8, 9, 10, 11, 13, 14, 5, 6, 7, 12, 15, 16, 17, 18, 19, 20, 21, 22, 23, 24, 28, 29, 30, 31, 33, 34, 25, 26, 27, 32, 35, 36, 37, 38, 39, 40, 41, 42, 43, 44, 47, 48, 49, 50, 45, 46, 51, 52, 53, 54, 55, 56, 57, 58, 59, 64, 65, 60, 61, 62, 63, 66, 67, 68, 69, 70, 71, 72, 77, 78, 79, 80, 73, 74, 75, 76, 81, 82, 83] _ (by (repeat (first|exact zR _|(apply zP;focus (repeat (first|exact zH _|apply zT)))|apply zD|exact zA _ _))) (by kernel_rfl) (by kernel_rfl) ?_
    refine sj_val (by decide) rfl rfl rfl (wn0 rfl) (fun R1 hR1 G => (y_move rfl)) ?_
    refine sj_val (by decide) rfl rfl rfl (wn0 rfl) (fun R1 hR1 G => (y_move rfl)) ?_
    refine sj_val (by decide) rfl rfl rfl (wn0 rfl) (fun R1 hR1 G => (y_move rfl)) ?_
    refine sj_val (by decide) rfl rfl rfl (wn0 rfl) (fun R1 hR1 G => (y_loads_all (vs := exC Op.val.str a [] (.slice none 0 0)) ⟨Try.isAgg29, Try.sizeOf29⟩ rfl rfl (by (repeat (first|exact zH _|apply zT));done))) ?_
    refine sj_val (by decide) rfl rfl rfl (wn0 rfl) (fun R1 hR1 G => (y_loads_all (vs := exC Op.val.str b [] (.slice none 0 0)) ⟨Try.isAgg29, Try.sizeOf29⟩ rfl rfl (by (repeat (first|exact zH _|apply zT));done))) ?_
    refine sj_val (by decide) rfl rfl rfl (wn0 rfl) (fun R1 hR1 G => (y_move rfl)) ?_
    refine sj_val (by decide) rfl rfl rfl (wn0 rfl) (fun R1 hR1 G => (y_move rfl)) ?_
    refine sj_val (by decide) rfl rfl rfl (wn0 rfl) (fun R1 hR1 G => (y_move rfl)) ?_
    refine sj_val (by decide) rfl rfl rfl (wn0 rfl) (fun R1 hR1 G => (y_loads_all (vs := exC Op.val.str a [] (.slice none 0 0)) ⟨Try.isAgg29, Try.sizeOf29⟩ rfl rfl (by (repeat (first|exact zH _|apply zT));done))) ?_
    refine sj_val (by decide) rfl rfl rfl (wn0 rfl) (fun R1 hR1 G => (y_move rfl)) ?_
    refine sj_val (by decide) rfl rfl rfl (wn0 rfl) (fun R1 hR1 G => (y_loads_all (vs := exC Op.val.str b [] (.slice none 0 0)) ⟨Try.isAgg29, Try.sizeOf29⟩ rfl rfl (by (repeat (first|exact zH _|apply zT));done))) ?_
    refine sj_row (by decide) rfl ?_
    try simp only [List.cons_append, List.nil_append, List.append_nil]
    refine rj_callv (wn0 rfl) rfl rfl Try.call29 rfl (two_t .or (lit_rep a) (lit_rep b)) (by (repeat (first|exact zN _|(apply zS;focus (repeat (first|exact zH _|apply zT)))))) (fun _ _ _ _ h => h.elim) ?_
    rintro r1 Q1 L1 hQ1 ⟨w1, rfl, x1, rfl⟩
    try simp only [List.cons_append, List.nil_append]
    refine rj_sk (by (first | exact Hp.le_refl _ | assumption | exact Hp.le_trans ‹_› ‹_›)) (by (repeat (first|exact zR _|(apply zP;focus (repeat (first|exact zH _|apply zT)))|apply zD|exact zA _ _))) ?_
    refine sj_row (by decide) rfl ?_
    try simp only [List.cons_append, List.nil_append, List.append_nil]
    refine rj_callv (wn0 rfl) rfl rfl Try.call28 rfl (not_t x1) (by (repeat (first|exact zN _|(apply zS;focus (repeat (first|exact zH _|apply zT)))))) (fun _ _ _ _ h => h.elim) ?_
    rintro r2 Q2 L2 hQ2 ⟨w2, rfl, x2, rfl⟩
    try simp only [List.cons_append, List.nil_append]
    refine rj_sk (by (first | exact Hp.le_refl _ | assumption | exact Hp.le_trans ‹_› ‹_›)) (by (repeat (first|exact zR _|(apply zP;focus (repeat (first|exact zH _|apply zT)))|apply zD|exact zA _ _))) ?_
    refine sj_val (by decide) rfl rfl rfl (wn0 rfl) (fun R1 hR1 G => (y_callv rfl Try.call30 rfl (v_q CO.not (x2.mono hR1)) (by (repeat (first|exact zN _|(apply zS;focus (repeat (first|exact zH _|apply zT)))))))) ?_
    refine sj_row (by decide) rfl ?_
    try simp only [List.cons_append, List.nil_append, List.append_nil]
    refine rj_callv (wn0 rfl) rfl rfl Try.call28 rfl (not_t (lit_rep a)) (by (repeat (first|exact zN _|(apply zS;focus (repeat (first|exact zH _|apply zT)))))) (fun _ _ _ _ h => h.elim) ?_
    rintro r3 Q3 L3 hQ3 ⟨w3, rfl, x3, rfl⟩
    try simp only [List.cons_append, List.nil_append]
    refine rj_sk (by (first | exact Hp.le_refl _ | assumption | exact Hp.le_trans ‹_› ‹_›)) (by (repeat (first|exact zR _|(apply zP;focus (repeat (first|exact zH _|apply zT)))|apply zD|exact zA _ _))) ?_
    refine sj_row (by decide) rfl ?_
    try simp only [List.cons_append, List.nil_append, List.append_nil]
    refine rj_callv (wn0 rfl) rfl rfl Try.call28 rfl (not_t (lit_rep b)) (by (repeat (first|exact zN _|(apply zS;focus (repeat (first|exact zH _|apply zT)))))) (fun _ _ _ _ h => h.elim) ?_
    rintro r4 Q4 L4 hQ4 ⟨w4, rfl, x4, rfl⟩
    try simp only [List.cons_append, List.nil_append]
    refine rj_sk (by (first | exact Hp.le_refl _ | assumption | exact Hp.le_trans ‹_› ‹_›)) (by (repeat (first|exact zR _|(apply zP;focus (repeat (first|exact zH _|apply zT)))|apply zD|exact zA _ _))) ?_
    refine sj_row (by decide) rfl ?_
    try simp only [List.cons_append, List.nil_append, List.append_nil]
    refine rj_callv (wn0 rfl) rfl rfl Try.call29 rfl (two_t .and (x3.mono hQ4) x4) (by (repeat (first|exact zN _|(apply zS;focus (repeat (first|exact zH _|apply zT)))))) (fun _ _ _ _ h => h.elim) ?_
    rintro r5 Q5 L5 hQ5 ⟨w5, rfl, x5, rfl⟩
    try simp only [List.cons_append, List.nil_append]
    refine rj_sk (by (first | exact Hp.le_refl _ | assumption | exact Hp.le_trans ‹_› ‹_›)) (by (repeat (first|exact zR _|(apply zP;focus (repeat (first|exact zH _|apply zT)))|apply zD|exact zA _ _))) ?_
    refine sj_val (by decide) rfl rfl rfl (wn0 rfl) (fun R1 hR1 G => (y_callv rfl Try.call30 rfl (v_q (Cnd.two (op := .and) (.inr rfl) CA.not CB.not) (x5.mono hR1)) (by (repeat (first|exact zN _|(apply zS;focus (repeat (first|exact zH _|apply zT)))))))) ?_
    refine sj_val (by decide) rfl rfl rfl (wn0 rfl) (fun R1 hR1 G => (Yld.to (u := .bool true) (y_steq (by kernel_rfl) rfl rfl (val_eq _ _)) (congrArg Value.bool (decide_eq_true (dm_or va vb ca cb))))) ?_
    refine sj_val (by decide) rfl rfl rfl (wn0 rfl) (fun R1 hR1 G => (y_move rfl)) ?_
    refine sj_val (by decide) rfl rfl rfl (wn1 rfl rfl rfl rfl) (fun R1 hR1 G => (y_move rfl)) ?_
    refine sj_val (by decide) rfl rfl rfl (wn1 rfl rfl rfl rfl) (fun R1 hR1 G => (y_move rfl)) ?_
    refine sj_val (by decide) rfl rfl rfl (wn1 rfl rfl rfl rfl) (fun R1 hR1 G => (y_move rfl)) ?_
    refine sj_val (by decide) rfl rfl rfl (wn1 rfl rfl rfl rfl) (fun R1 hR1 G => (y_loads_all (vs := exC Op.val.str a [] (.slice none 0 0)) ⟨Try.isAgg29, Try.sizeOf29⟩ rfl rfl (by (repeat (first|exact zH _|apply zT));done))) ?_
    refine sj_val (by decide) rfl rfl rfl (wn1 rfl rfl rfl rfl) (fun R1 hR1 G => (y_loads_all (vs := exC Op.val.str b [] (.slice none 0 0)) ⟨Try.isAgg29, Try.sizeOf29⟩ rfl rfl (by (repeat (first|exact zH _|apply zT));done))) ?_
    refine sj_val (by decide) rfl rfl rfl (wn1 rfl rfl rfl rfl) (fun R1 hR1 G => (y_move rfl)) ?_
    refine sj_val (by decide) rfl rfl rfl (wn1 rfl rfl rfl rfl) (fun R1 hR1 G => (y_move rfl)) ?_
    refine sj_val (by decide) rfl rfl rfl (wn1 rfl rfl rfl rfl) (fun R1 hR1 G => (y_move rfl)) ?_
    refine sj_val (by decide) rfl rfl rfl (wn1 rfl rfl rfl rfl) (fun R1 hR1 G => (y_loads_all (vs := exC Op.val.str a [] (.slice none 0 0)) ⟨Try.isAgg29, Try.sizeOf29⟩ rfl rfl (by (repeat (first|exact zH _|apply zT));done))) ?_
    refine sj_val (by decide) rfl rfl rfl (wn1 rfl rfl rfl rfl) (fun R1 hR1 G => (y_move rfl)) ?_
    refine sj_val (by decide) rfl rfl rfl (wn1 rfl rfl rfl rfl) (fun R1 hR1 G => (y_loads_all (vs := exC Op.val.str b [] (.slice none 0 0)) ⟨Try.isAgg29, Try.sizeOf29⟩ rfl rfl (by (repeat (first|exact zH _|apply zT));done))) ?_
    refine sj_row (by decide) rfl ?_
    try simp only [List.cons_append, List.nil_append, List.append_nil]
    refine rj_callv (wn1 rfl rfl rfl rfl) rfl rfl Try.call29 rfl (two_t .and (lit_rep a) (lit_rep b)) (by (repeat (first|exact zN _|(apply zS;focus (repeat (first|exact zH _|apply zT)))))) (fun _ _ _ _ h => h.elim) ?_
    rintro r6 Q6 L6 hQ6 ⟨w6, rfl, x6, rfl⟩
    try simp only [List.cons_append, List.nil_append]
    refine rj_sk (by (first | exact Hp.le_refl _ | assumption | exact Hp.le_trans ‹_› ‹_›)) (by (repeat (first|exact zR _|(apply zP;focus (repeat (first|exact zH _|apply zT)))|apply zD|exact zA _ _))) ?_
    refine sj_row (by decide) rfl ?_
    try simp only [List.cons_append, List.nil_append, List.append_nil]
    refine rj_callv (wn1 rfl rfl rfl rfl) rfl rfl Try.call28 rfl (not_t x6) (by (repeat (first|exact zN _|(apply zS;focus (repeat (first|exact zH _|apply zT)))))) (fun _ _ _ _ h => h.elim) ?_
    rintro r7 Q7 L7 hQ7 ⟨w7, rfl, x7, rfl⟩
    try simp only [List.cons_append, List.nil_append]
    refine rj_sk (by (first | exact Hp.le_refl _ | assumption | exact Hp.le_trans ‹_› ‹_›)) (by (repeat (first|exact zR _|(apply zP;focus (repeat (first|exact zH _|apply zT)))|apply zD|exact zA _ _))) ?_
    refine sj_val (by decide) rfl rfl rfl (wn1 rfl rfl rfl rfl) (fun R1 hR1 G => (y_callv rfl Try.call30 rfl (v_q CN.not (x7.mono hR1)) (by (repeat (first|exact zN _|(apply zS;focus (repeat (first|exact zH _|apply zT)))))))) ?_
    refine sj_row (by decide) rfl ?_
    try simp only [List.cons_append, List.nil_append, List.append_nil]
    refine rj_callv (wn1 rfl rfl rfl rfl) rfl rfl Try.call28 rfl (not_t (lit_rep a)) (by (repeat (first|exact zN _|(apply zS;focus (repeat (first|exact zH _|apply zT)))))) (fun _ _ _ _ h => h.elim) ?_
    rintro r8 Q8 L8 hQ8 ⟨w8, rfl, x8, rfl⟩
    try simp only [List.cons_append, List.nil_append]
    refine rj_sk (by (first | exact Hp.le_refl _ | assumption | exact Hp.le_trans ‹_› ‹_›)) (by (repeat (first|exact zR _|(apply zP;focus (repeat (first|exact zH _|apply zT)))|apply zD|exact zA _ _))) ?_
    refine sj_row (by decide) rfl ?_
    try simp only [List.cons_append, List.nil_append, List.append_nil]
    refine rj_callv (wn1 rfl rfl rfl rfl) rfl rfl Try.call28 rfl (not_t (lit_rep b)) (by (repeat (first|exact zN _|(apply zS;focus (repeat (first|exact zH _|apply zT)))))) (fun _ _ _ _ h => h.elim) ?_
    rintro r9 Q9 L9 hQ9 ⟨w9, rfl, x9, rfl⟩
    try simp only [List.cons_append, List.nil_append]
    refine rj_sk (by (first | exact Hp.le_refl _ | assumption | exact Hp.le_trans ‹_› ‹_›)) (by (repeat (first|exact zR _|(apply zP;focus (repeat (first|exact zH _|apply zT)))|apply zD|exact zA _ _))) ?_
    refine sj_row (by decide) rfl ?_
    try simp only [List.cons_append, List.nil_append, List.append_nil]
    refine rj_callv (wn1 rfl rfl rfl rfl) rfl rfl Try.call29 rfl (two_t .or (x8.mono hQ9) x9) (by (repeat (first|exact zN _|(apply zS;focus (repeat (first|exact zH _|apply zT)))))) (fun _ _ _ _ h => h.elim) ?_
    rintro r10 Q10 L10 hQ10 ⟨w10, rfl, x10, rfl⟩
    try simp only [List.cons_append, List.nil_append]
    refine rj_sk (by (first | exact Hp.le_refl _ | assumption | exact Hp.le_trans ‹_› ‹_›)) (by (repeat (first|exact zR _|(apply zP;focus (repeat (first|exact zH _|apply zT)))|apply zD|exact zA _ _))) ?_
    refine sj_val (by decide) rfl rfl rfl (wn1 rfl rfl rfl rfl) (fun R1 hR1 G => (y_callv rfl Try.call30 rfl (v_q (Cnd.two (op := .or) (.inl rfl) CA.not CB.not) (x10.mono hR1)) (by (repeat (first|exact zN _|(apply zS;focus (repeat (first|exact zH _|apply zT)))))))) ?_
    refine sj_val (by decide) rfl rfl rfl (wn1 rfl rfl rfl rfl) (fun R1 hR1 G => (Yld.to (u := .bool true) (y_steq (by kernel_rfl) rfl rfl (val_eq _ _)) (congrArg Value.bool (decide_eq_true (dm_and va vb ca cb))))) ?_
    refine sj_val (by decide) rfl rfl rfl (wn0 rfl) (fun R1 hR1 G => (y_pick_t rfl rfl)) ?_
    refine sj_val (by decide) rfl rfl rfl (wn0 rfl) (fun R1 hR1 G => (y_move rfl)) ?_
    refine sj_val (by decide) rfl rfl rfl (wn1 rfl rfl rfl rfl) (fun R1 hR1 G => (y_move rfl)) ?_
    refine sj_val (by decide) rfl rfl rfl (wn1 rfl rfl rfl rfl) (fun R1 hR1 G => (y_move rfl)) ?_
    refine sj_val (by decide) rfl rfl rfl (wn1 rfl rfl rfl rfl) (fun R1 hR1 G => (y_loads_all (vs := exC Op.val.str a [] (.slice none 0 0)) ⟨Try.isAgg29, Try.sizeOf29⟩ rfl rfl (by (repeat (first|exact zH _|apply zT));done))) ?_
    refine sj_val (by decide) rfl rfl rfl (wn1 rfl rfl rfl rfl) (fun R1 hR1 G => (y_loads_all (vs := exC Op.val.str b [] (.slice none 0 0)) ⟨Try.isAgg29, Try.sizeOf29⟩ rfl rfl (by (repeat (first|exact zH _|apply zT));done))) ?_
    refine sj_val (by decide) rfl rfl rfl (wn1 rfl rfl rfl rfl) (fun R1 hR1 G => (y_move rfl)) ?_
    refine sj_val (by decide) rfl rfl rfl (wn1 rfl rfl rfl rfl) (fun R1 hR1 G => (y_move rfl)) ?_
    refine sj_val (by decide) rfl rfl rfl (wn1 rfl rfl rfl rfl) (fun R1 hR1 G => (y_loads_all (vs := exC Op.val.str b [] (.slice none 0 0)) ⟨Try.isAgg29, Try.sizeOf29⟩ rfl rfl (by (repeat (first|exact zH _|apply zT));done))) ?_
    refine sj_val (by decide) rfl rfl rfl (wn1 rfl rfl rfl rfl) (fun R1 hR1 G => (y_loads_all (vs := exC Op.val.str a [] (.slice none 0 0)) ⟨Try.isAgg29, Try.sizeOf29⟩ rfl rfl (by (repeat (first|exact zH _|apply zT));done))) ?_
    refine sj_row (by decide) rfl ?_
    try simp only [List.cons_append, List.nil_append, List.append_nil]
    refine rj_callv (wn1 rfl rfl rfl rfl) rfl rfl Try.call29 rfl (two_t .or (lit_rep a) (lit_rep b)) (by (repeat (first|exact zN _|(apply zS;focus (repeat (first|exact zH _|apply zT)))))) (fun _ _ _ _ h => h.elim) ?_
    rintro r11 Q11 L11 hQ11 ⟨w11, rfl, x11, rfl⟩
    try simp only [List.cons_append, List.nil_append]
    refine rj_sk (by (first | exact Hp.le_refl _ | assumption | exact Hp.le_trans ‹_› ‹_›)) (by (repeat (first|exact zR _|(apply zP;focus (repeat (first|exact zH _|apply zT)))|apply zD|exact zA _ _))) ?_
    refine sj_val (by decide) rfl rfl rfl (wn1 rfl rfl rfl rfl) (fun R1 hR1 G => (y_callv rfl Try.call30 rfl (v_q CO (x11.mono hR1)) (by (repeat (first|exact zN _|(apply zS;focus (repeat (first|exact zH _|apply zT)))))))) ?_
    refine sj_row (by decide) rfl ?_
    try simp only [List.cons_append, List.nil_append, List.append_nil]
    refine rj_callv (wn1 rfl rfl rfl rfl) rfl rfl Try.call29 rfl (two_t .or (lit_rep b) (lit_rep a)) (by (repeat (first|exact zN _|(apply zS;focus (repeat (first|exact zH _|apply zT)))))) (fun _ _ _ _ h => h.elim) ?_
    rintro r12 Q12 L12 hQ12 ⟨w12, rfl, x12, rfl⟩
    try simp only [List.cons_append, List.nil_append]
    refine rj_sk (by (first | exact Hp.le_refl _ | assumption | exact Hp.le_trans ‹_› ‹_›)) (by (repeat (first|exact zR _|(apply zP;focus (repeat (first|exact zH _|apply zT)))|apply zD|exact zA _ _))) ?_
    refine sj_val (by decide) rfl rfl rfl (wn1 rfl rfl rfl rfl) (fun R1 hR1 G => (y_callv rfl Try.call30 rfl (v_q CS (x12.mono hR1)) (by (repeat (first|exact zN _|(apply zS;focus (repeat (first|exact zH _|apply zT)))))))) ?_
    refine sj_val (by decide) rfl rfl rfl (wn1 rfl rfl rfl rfl) (fun R1 hR1 G => (Yld.to (u := .bool true) (y_steq (by kernel_rfl) rfl rfl (val_eq _ _)) (congrArg Value.bool (decide_eq_true (or_swap va vb ca cb))))) ?_
    refine sj_val (by decide) rfl rfl rfl (wn0 rfl) (fun R1 hR1 G => (y_pick_t rfl rfl)) ?_
    refine sj_val (by decide) rfl rfl rfl (wn0 rfl) (fun R1 hR1 G => (y_move rfl)) ?_
    refine sj_val (by decide) rfl rfl rfl (wn1 rfl rfl rfl rfl) (fun R1 hR1 G => (y_move rfl)) ?_
    refine sj_val (by decide) rfl rfl rfl (wn1 rfl rfl rfl rfl) (fun R1 hR1 G => (y_move rfl)) ?_
    refine sj_val (by decide) rfl rfl rfl (wn1 rfl rfl rfl rfl) (fun R1 hR1 G => (y_move rfl)) ?_
    refine sj_val (by decide) rfl rfl rfl (wn1 rfl rfl rfl rfl) (fun R1 hR1 G => (y_loads_all (vs := exC Op.val.str a [] (.slice none 0 0)) ⟨Try.isAgg29, Try.sizeOf29⟩ rfl rfl (by (repeat (first|exact zH _|apply zT));done))) ?_
    refine sj_val (by decide) rfl rfl rfl (wn1 rfl rfl rfl rfl) (fun R1 hR1 G => (y_indexAddr_arr Try.underlying57 Try.sizeOf26 rfl rfl (by decide))) ?_
    refine sj_val (by decide) rfl rfl rfl (wn1 rfl rfl rfl rfl) (fun R1 hR1 G => (y_loads_blk (vs := valC a) ⟨Try.isAgg26, Try.sizeOf26⟩ rfl (by (repeat (first|exact zH _|apply zT));done) rfl rfl)) ?_
    refine sj_row (by decide) rfl ?_
    try simp only [List.cons_append, List.nil_append, List.append_nil]
    refine rj_callv (wn1 rfl rfl rfl rfl) rfl rfl Try.call28 rfl (not_t (lit_rep a)) (by (repeat (first|exact zN _|(apply zS;focus (repeat (first|exact zH _|apply zT)))))) (fun _ _ _ _ h => h.elim) ?_
    rintro r13 Q13 L13 hQ13 ⟨w13, rfl, x13, rfl⟩
    try simp only [List.cons_append, List.nil_append]
    refine rj_sk (by (first | exact Hp.le_refl _ | assumption | exact Hp.le_trans ‹_› ‹_›)) (by (repeat (first|exact zR _|(apply zP;focus (repeat (first|exact zH _|apply zT)))|apply zD|exact zA _ _))) ?_
    refine sj_row (by decide) rfl ?_
    try simp only [List.cons_append, List.nil_append, List.append_nil]
    refine rj_callv (wn1 rfl rfl rfl rfl) rfl rfl Try.call28 rfl (not_t x13) (by (repeat (first|exact zN _|(apply zS;focus (repeat (first|exact zH _|apply zT)))))) (fun _ _ _ _ h => h.elim) ?_
    rintro r14 Q14 L14 hQ14 ⟨w14, rfl, x14, rfl⟩
    try simp only [List.cons_append, List.nil_append]
    refine rj_sk (by (first | exact Hp.le_refl _ | assumption | exact Hp.le_trans ‹_› ‹_›)) (by (repeat (first|exact zR _|(apply zP;focus (repeat (first|exact zH _|apply zT)))|apply zD|exact zA _ _))) ?_
    refine sj_val (by decide) rfl rfl rfl (wn1 rfl rfl rfl rfl) (fun R1 hR1 G => (y_callv rfl Try.call30 rfl (v_q CA.not.not (x14.mono hR1)) (by (repeat (first|exact zN _|(apply zS;focus (repeat (first|exact zH _|apply zT)))))))) ?_
    refine sj_val (by decide) rfl rfl rfl (wn1 rfl rfl rfl rfl) (fun R1 hR1 G => (y_call Try.call26 rfl ((true_q (notV (notV a)))) (by (repeat (first|exact zN _|(apply zS;focus (repeat (first|exact zH _|apply zT)))))))) ?_
    refine sj_val (by decide) rfl rfl rfl (wn1 rfl rfl rfl rfl) (fun R1 hR1 G => (y_call Try.call26 rfl ((true_q a)) (by (repeat (first|exact zN _|(apply zS;focus (repeat (first|exact zH _|apply zT)))))))) ?_
    refine sj_val (by decide) rfl rfl rfl (wn1 rfl rfl rfl rfl) (fun R1 hR1 G => (Yld.to (u := .bool true) (y_beql Try.underlying4 rfl rfl) (by rw [not_not va ca]; simp))) ?_
    refine sj_val (by decide) rfl rfl rfl (wn0 rfl) (fun R1 hR1 G => (y_pick_t rfl rfl)) ?_
    refine sj_val (by decide) rfl rfl rfl (wn0 rfl) (fun R1 hR1 G => (y_move rfl)) ?_
    refine sj_val (by decide) rfl rfl rfl (wn1 rfl rfl rfl rfl) (fun R1 hR1 G => (y_move rfl)) ?_
    refine sj_val (by decide) rfl rfl rfl (wn1 rfl rfl rfl rfl) (fun R1 hR1 G => (y_move rfl)) ?_
    refine sj_val (by decide) rfl rfl rfl (wn1 rfl rfl rfl rfl) (fun R1 hR1 G => (y_loads_all (vs := exC Op.val.str a [] (.slice none 0 0)) ⟨Try.isAgg29, Try.sizeOf29⟩ rfl rfl (by (repeat (first|exact zH _|apply zT));done))) ?_
    refine sj_val (by decide) rfl rfl rfl (wn1 rfl rfl rfl rfl) (fun R1 hR1 G => (y_indexAddr_arr Try.underlying57 Try.sizeOf26 rfl rfl (by decide))) ?_
    refine sj_val (by decide) rfl rfl rfl (wn1 rfl rfl rfl rfl) (fun R1 hR1 G => (y_fieldAddr (k := 0) Try.underlying26 rfl (n := 1) (by decide) Try.sizeOf3 rfl)) ?_
    refine sj_val (by decide) rfl rfl rfl (wn1 rfl rfl rfl rfl) (fun R1 hR1 G => (y_load ⟨Try.isAgg3, Try.sizeOf3⟩ rfl (by (repeat (first|exact zH _|apply zT));done) rfl)) ?_
    refine sj_val (by decide) rfl rfl rfl (wn1 rfl rfl rfl rfl) (fun R1 hR1 G => (y_eql rfl rfl)) ?_
    refine sj_row (by decide) rfl ?_
    try simp only [List.cons_append, List.nil_append, List.append_nil]
    refine rj_callv (wn1 rfl rfl rfl rfl) rfl rfl Try.call28 rfl (not_t (lit_rep a)) (by (repeat (first|exact zN _|(apply zS;focus (repeat (first|exact zH _|apply zT)))))) (fun _ _ _ _ h => h.elim) ?_
    rintro r15 Q15 L15 hQ15 ⟨w15, rfl, x15, rfl⟩
    try simp only [List.cons_append, List.nil_append]
    refine rj_sk (by (first | exact Hp.le_refl _ | assumption | exact Hp.le_trans ‹_› ‹_›)) (by (repeat (first|exact zR _|(apply zP;focus (repeat (first|exact zH _|apply zT)))|apply zD|exact zA _ _))) ?_
    refine sj_val (by decide) rfl rfl rfl (wn1 rfl rfl rfl rfl) (fun R1 hR1 G => (y_callv rfl Try.call30 rfl (v_q CA.not (x15.mono hR1)) (by (repeat (first|exact zN _|(apply zS;focus (repeat (first|exact zH _|apply zT)))))))) ?_
    refine sj_val (by decide) rfl rfl rfl (wn1 rfl rfl rfl rfl) (fun R1 hR1 G => (y_field Try.underlying26 rfl ⟨Try.isAgg3, Try.sizeOf3⟩ rfl rfl)) ?_
    refine sj_val (by decide) rfl rfl rfl (wn1 rfl rfl rfl rfl) (fun R1 hR1 G => (y_eql rfl rfl)) ?_
    refine sj_val (by decide) rfl rfl rfl (wn1 rfl rfl rfl rfl) (fun R1 hR1 G => (Yld.to (u := .bool true) (y_beql Try.underlying4 rfl rfl) (by rw [not_null a]))) ?_
    refine sj_val (by decide) rfl rfl rfl (wn0 rfl) (fun R1 hR1 G => (y_pick_t rfl rfl)) ?_
    refine sj_val (by decide) rfl rfl rfl (wn0 rfl) (fun R1 hR1 G => (y_assign rfl)) ?_
    refine sj_nil ?_
    try simp only [List.cons_append, List.nil_append, List.append_nil]
    refine hK19 _ _ _ ?_
    refine cj_env (eL 2 rfl eN) ?_
    refine cj_ret ?_
    refine hret _ _ _ ?_
    apply ej_ret Try.results7 (.cons (rv_tmp rfl) .nil) _ [] (by first | exact hR0 | exact (Hp.le_trans (Hp.le_trans (Hp.le_trans (Hp.le_trans (Hp.le_trans (Hp.le_trans (Hp.le_trans (Hp.le_trans (Hp.le_trans (Hp.le_trans (Hp.le_trans (Hp.le_trans (Hp.le_trans (Hp.le_trans (Hp.le_trans hR0 hQ1) hQ2) hQ3) hQ4) hQ5) hQ6) hQ7) hQ8) hQ9) hQ10) hQ11) hQ12) hQ13) hQ14) hQ15)) rfl
    case hp => rfl
    case hS => (repeat (first|exact zR _|(apply zP;focus (repeat (first|exact zH _|apply zT)))|apply zD|exact zA _ _))
   obtain rfl : i = 2 := by (try simp at hc12); omega
   obtain ⟨⟨va, ka⟩, vb, kb⟩ : (isV a = true ∧ ¬ a.kind = 2) ∧ (isV b = true ∧ ¬ b.kind = 2) := by simpa using hok
   have ca : a.kind = 0 ∨ a.kind = 1 := by rcases isV_kok va with h | h | h; exact .inl h; exact .inr h; exact absurd h ka
   have cb : b.kind = 0 ∨ b.kind = 1 := by rcases isV_kok vb with h | h | h; exact .inl h; exact .inr h; exact absurd h kb
   refine cj_mixs (L := [blk b1 (valsC [a, b]) 57]) [0, 1, 2, 3, 4, 5] [6, 7, 8] [9] _ noX_ok (by (repeat (first|exact zR _|(apply zP;focus (repeat (first|exact zH _|apply zT)))|apply zD|exact zA _ _))) (by kernel_rfl) (by kernel_rfl) (by kernel_rfl) rfl ?_
   refine fj_val rfl rfl rfl (wn0 rfl) (fun R1 hR1 G => (y_indexAddr_arr Try.underlying57 Try.sizeOf26 rfl rfl (by decide))) ?_
   refine fj_val rfl rfl rfl (wn0 rfl) (fun R1 hR1 G => (y_loads_blk (vs := valC a) ⟨Try.isAgg26, Try.sizeOf26⟩ rfl (by (repeat (first|exact zH _|apply zT));done) rfl rfl)) ?_
   refine fj_val rfl rfl rfl (wn0 rfl) (fun R1 hR1 G => (y_build (cells := [_, _, _, _, _, _]) [(0, 1), (1, 3), (4, 1), (5, 1)] Try.underlying29 Try.zeroValue29 (fun _ => rfl) rfl rfl)) ?_
   refine fj_val rfl rfl rfl (wn0 rfl) (fun R1 hR1 G => (y_indexAddr_arr Try.underlying57 Try.sizeOf26 rfl rfl (by decide))) ?_
   refine fj_val rfl rfl rfl (wn0 rfl) (fun R1 hR1 G => (y_loads_blk (vs := valC b) ⟨Try.isAgg26, Try.sizeOf26⟩ rfl (by (repeat (first|exact zH _|apply zT));done) rfl rfl)) ?_
   refine fj_val rfl rfl rfl (wn0 rfl) (fun R1 hR1 G => (y_build (cells := [_, _, _, _, _, _]) [(0, 1), (1, 3), (4, 1), (5, 1)] Try.underlying29 Try.zeroValue29 (fun _ => rfl) rfl rfl)) ?_
   refine fj_nil ?_
   refine xs_all [6, 7] (by kernel_rfl) ⟨?_, ?_, trivial⟩
   ·refine yj_rj rfl ?_
    try simp only [List.cons_append, List.nil_append, List.append_nil]
    refine rj_alloc (wn0 rfl) rfl Try.zeroValue29 rfl (fun b4 => ?_)
    refine rj_yk (by (first | exact Hp.le_refl _ | assumption | exact Hp.le_trans ‹_› ‹_›)) (by (repeat (first|exact zR _|(apply zP;focus (repeat (first|exact zH _|apply zT)))|apply zD|exact zA _ _))) ?_
    refine xs_all [7] (by kernel_rfl) ⟨?_, trivial⟩
    refine yj_rj rfl ?_
    try simp only [List.cons_append, List.nil_append, List.append_nil]
    refine rj_alloc (wn0 rfl) rfl Try.zeroValue29 rfl (fun b5 => ?_)
    refine rj_yk (by (first | exact Hp.le_refl _ | assumption | exact Hp.le_trans ‹_› ‹_›)) (by (repeat (first|exact zR _|(apply zP;focus (repeat (first|exact zH _|apply zT)))|apply zD|exact zA _ _))) ?_
    refine xs_all [8] (by kernel_rfl) ⟨?_, trivial⟩
    refine yj_rj rfl ?_
    try simp only [List.cons_append, List.nil_append, List.append_nil]
    refine rj_stores_all (vs := exC Op.val.str a [] (.slice none 0 0)) ⟨Try.isAgg29, Try.sizeOf29⟩ rfl (wn0 rfl) rfl rfl (RepX.one (R := R0) (lit_rep a)) (by (repeat (first|exact zH _|apply zT));done) rfl ?_
    refine rj_yk (by (first | exact Hp.le_refl _ | assumption | exact Hp.le_trans ‹_› ‹_›)) (by (repeat (first|exact zR _|(apply zP;focus (repeat (first|exact zH _|apply zT)))|apply zD|exact zA _ _))) ?_
    refine xs_nil ?_
    try simp only [List.cons_append, List.nil_append, List.append_nil]
    refine rj_stores_all (vs := exC Op.val.str b [] (.slice none 0 0)) ⟨Try.isAgg29, Try.sizeOf29⟩ rfl (wn0 rfl) rfl rfl (RepX.one (R := R0) (lit_rep b)) (by (repeat (first|exact zH _|apply zT));done) rfl ?_
    refine rj_nil ?_
    refine ej_join hJ10 ((b4, b5)) (⟨⟨va, ca⟩, vb, cb⟩) (eC rfl (eC rfl (eC rfl eN))) rfl (by (repeat (first|exact zR _|(apply zP;focus (repeat (first|exact zH _|apply zT)))|apply zD|exact zA _ _)))
   ·refine yj_rj rfl ?_
    try simp only [List.cons_append, List.nil_append, List.append_nil]
    refine rj_alloc (wn0 rfl) rfl Try.zeroValue29 rfl (fun b5 => ?_)
    refine rj_yk (by (first | exact Hp.le_refl _ | assumption | exact Hp.le_trans ‹_› ‹_›)) (by (repeat (first|exact zR _|(apply zP;focus (repeat (first|exact zH _|apply zT)))|apply zD|exact zA _ _))) ?_
    refine xs_all [6] (by kernel_rfl) ⟨?_, trivial⟩
    refine yj_rj rfl ?_
    try simp only [List.cons_append, List.nil_append, List.append_nil]
    refine rj_alloc (wn0 rfl) rfl Try.zeroValue29 rfl (fun b4 => ?_)
    refine rj_yk (by (first | exact Hp.le_refl _ | assumption | exact Hp.le_trans ‹_› ‹_›)) (by (repeat (first|exact zR _|(apply zP;focus (repeat (first|exact zH _|apply zT)))|apply zD|exact zA _ _))) ?_
    refine xs_all [8] (by kernel_rfl) ⟨?_, trivial⟩
    refine yj_rj rfl ?_
    try simp only [List.cons_append, List.nil_append, List.append_nil]
    refine rj_stores_all (vs := exC Op.val.str a [] (.slice none 0 0)) ⟨Try.isAgg29, Try.sizeOf29⟩ rfl (wn0 rfl) rfl rfl (RepX.one (R := R0) (lit_rep a)) (by (repeat (first|exact zH _|apply zT));done) rfl ?_
    refine rj_yk (by (first | exact Hp.le_refl _ | assumption | exact Hp.le_trans ‹_› ‹_›)) (by (repeat (first|exact zR _|(apply zP;focus (repeat (first|exact zH _|apply zT)))|apply zD|exact zA _ _))) ?_
    refine xs_nil ?_
    try simp only [List.cons_append, List.nil_append, List.append_nil]
    refine rj_stores_all (vs := exC Op.val.str b [] (.slice none 0 0)) ⟨Try.isAgg29, Try.sizeOf29⟩ rfl (wn0 rfl) rfl rfl (RepX.one (R := R0) (lit_rep b)) (by (repeat (first|exact zH _|apply zT));done) rfl ?_
    refine rj_nil ?_
    refine ej_join hJ10 ((b4, b5)) (⟨⟨va, ca⟩, vb, cb⟩) (eC rfl (eC rfl (eC rfl eN))) rfl (by (repeat (first|exact zR _|(apply zP;focus (repeat (first|exact zH _|apply zT)))|apply zD|exact zA _ _)))
end V
end Go.Proofs.Ytghgifgmacapcaa
