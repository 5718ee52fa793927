/- A sum of three, walked; how the laws' arguments read. -/
import Derived.Test.YtghgifgmacapcaaT18v
set_option linter.unusedSimpArgs false
set_option linter.unusedVariables false
set_option maxRecDepth 100000
namespace Go.Proofs.Ytghgifgmacapcaa
open Go.RowKit
namespace V
set_option maxHeartbeats 4000000
/-! ### how arguments read -/
theorem slcR_all {α : Type} {n : Nat} {r : Rdr α} {R : Hp} {v : Value} {ys : List α} (h : slcR n r R [v] ys) : ∀ x ∈ ys, ∃ c, c.length = n ∧ r R c x := by
  obtain ⟨q, cap, _, _, _, h3⟩ := h
  intro x hx
  rcases h3 with rfl | ⟨b, off, _, hz⟩
  · simp at hx
  · obtain ⟨i, hi, rfl⟩ := List.getElem_of_mem hx
    obtain ⟨c, h1, _, h2⟩ := hz i hi
    exact ⟨c, h1, h2⟩
theorem len3 {c : List Value} (h : c.length = 3) : ∃ a b d, c = [a, b, d] := three h
abbrev vlR : Rdr (Int × Int × List UInt8) := pairR 1 (intR .i64) (pairR 1 (intR .i64) strR)
theorem vlR_E {R : Hp} {c : List Value} {x : Int × Int × List UInt8} (hc : c.length = 3) (h : vlR R c x) : c = [.int .i64 x.1, .int .i64 x.2.1, .string (str x.2.2)] ∧ b64 x.2.1 ∧ x.2.2.length ≤ maxLen := by
  obtain ⟨a, b, d, rfl⟩ := len3 hc
  obtain ⟨⟨e0, b0⟩, ⟨e1, b1⟩, e2, b2⟩ := h
  simp only [List.take_succ_cons, List.take_zero, List.drop_succ_cons, List.drop_zero, List.cons.injEq, and_true] at e0 e1 e2
  exact ⟨by rw [e0, e1, e2], b64_of b1, b2⟩
def vlOf (x : Int × Int × List UInt8) : Vl := ⟨x.1, x.2.1, x.2.2⟩
def stOf (x : Int × Int × List UInt8) : St := ⟨x.1, x.2.1, x.2.2⟩
theorem steps_in {R : Hp} {v : Value} {ys : List (Int × Int × List UInt8)} (h : slcR 3 vlR R [v] ys) : FrX stE R (ys.map stOf) v ∧ ∀ x ∈ ys.map stOf, b64 x.n :=
  ⟨slcR_frx (T := stE) stOf (fun c x hc h => (vlR_E hc h).1) h, fun m hm => by
    obtain ⟨y, hy, rfl⟩ := List.mem_map.1 hm
    obtain ⟨c, hc, h1⟩ := slcR_all h y hy
    exact (vlR_E hc h1).2.1⟩
theorem bools_in {R : Hp} {n : Nat} {c : List Value} {ys : List Bool} (h : arrR n 1 boolR R c ys) : c = ys.map Value.bool ∧ ys.length = n := by
  obtain ⟨h1, h2, h3⟩ := h
  refine ⟨?_, h2⟩
  apply List.ext_getElem?
  intro i
  rw [List.getElem?_map]
  by_cases hi : i < ys.length
  · have := h3 i hi
    unfold boolR at this
    rw [List.getElem?_eq_getElem hi]
    have e : ((c.drop (i * 1)).take 1)[0]? = some (.bool ys[i]) := by rw [this]; rfl
    simpa using e
  · rw [List.getElem?_eq_none (by omega), List.getElem?_eq_none (by omega)]; rfl
theorem vals_in {R : Hp} {n : Nat} {c : List Value} {ys : List (Int × Int × List UInt8)} (h : arrR n 3 vlR R c ys) : c = valsC (ys.map vlOf) ∧ (ys.map vlOf).length = n ∧ ∀ v ∈ ys.map vlOf, inV v := by
  obtain ⟨h1, h2, h3⟩ := h
  have key : ∀ (i : Nat) (hi : i < ys.length), (c.drop (i * 3)).take 3 = valC (vlOf ys[i]) ∧ inV (vlOf ys[i]) := fun i hi => by
    have := vlR_E (by simp; omega) (h3 i hi)
    exact ⟨this.1, this.2.1, this.2.2⟩
  refine ⟨?_, by simpa using h2, fun v hv => ?_⟩
  · apply List.ext_getElem?
    intro k
    by_cases hk : k < c.length
    · have hi : k / 3 < ys.length := by omega
      have e1 := congrArg (fun l => l[k % 3]?) (key (k / 3) hi).1
      simp only [List.getElem?_take, List.getElem?_drop] at e1
      rw [if_pos (by omega), show k / 3 * 3 + k % 3 = k by omega] at e1
      rw [e1]
      have e2 := valsC_nth (l := ys.map vlOf) (i := k / 3) (j := k % 3) (v := vlOf ys[k / 3]) (u := (valC (vlOf ys[k / 3]))[k % 3]'(by show k % 3 < 3; omega)) (by simp [hi]) (by simp)
      rw [nth_eq, show k / 3 * 3 + k % 3 = k by omega] at e2
      rw [e2]; simp
    · rw [List.getElem?_eq_none (by omega), List.getElem?_eq_none (by rw [valsC_len]; simp; omega)]
  · obtain ⟨y, hy, rfl⟩ := List.mem_map.1 hv
    obtain ⟨i, hi, rfl⟩ := List.getElem_of_mem hy
    exact (key i hi).2
/-! ### expressions by hand -/
theorem kidsFr2 {R : Hp} {x y : Ex} {cx cy : List Value} {v : Value} (h : FrozenS R v 2 (cx ++ cy)) (hx : RepX R x cx) (hy : RepX R y cy) : FrX exE R [x, y] v :=
  FrozenS.frx (l := [x, y]) (css := [cx, cy]) (by simpa using h) ⟨rfl, fun i z cs h1 h2 => by
    match i with
    | 0 => cases h1; cases h2; exact hx
    | 1 => cases h1; cases h2; exact hy
    | i + 2 => simp at h1⟩
theorem kidsFr1 {R : Hp} {x : Ex} {cx : List Value} {v : Value} (h : FrozenS R v 1 cx) (hx : RepX R x cx) : FrX exE R [x] v :=
  FrozenS.frx (l := [x]) (css := [cx]) (by simpa using h) ⟨rfl, fun i z cs h1 h2 => by
    match i with
    | 0 => cases h1; cases h2; exact hx
    | i + 1 => simp at h1⟩
theorem valFr1 {R : Hp} {x : Vl} {v : Value} (h : FrozenS R v 1 (valC x)) : FrX valE R [x] v :=
  FrozenS.frx (l := [x]) (css := [valC x]) (by simpa using h) ⟨rfl, fun i z cs h1 h2 => by
    match i with
    | 0 => cases h1; cases h2; rfl
    | i + 1 => simp at h1⟩
theorem colFr1 {R : Hp} {x : Cl} {v : Value} (h : FrozenS R v 1 (colC x)) : FrX colE R [x] v :=
  FrozenS.frx (l := [x]) (css := [colC x]) (by simpa using h) ⟨rfl, fun i z cs h1 h2 => by
    match i with
    | 0 => cases h1; cases h2; rfl
    | i + 1 => simp at h1⟩
theorem rowFr2 {R : Hp} {a b : List Vl} {va vb v : Value} (h : FrozenS R v 2 [va, vb]) (ha : FrX valE R a va) (hb : FrX valE R b vb) : FrX rowE R [a, b] v :=
  FrozenS.frx (l := [a, b]) (css := [[va], [vb]]) h ⟨rfl, fun i x cs h1 h2 => by
    match i with
    | 0 => cases h1; cases h2; exact ⟨va, rfl, ha⟩
    | 1 => cases h1; cases h2; exact ⟨vb, rfl, hb⟩
    | i + 2 => simp at h1⟩
theorem RepX.leaf {R : Hp} (op : Op) (v : Vl) (name : Bs) : RepX R (.mk op v name []) (exC op.str v name (.slice none 0 0)) := RepX.of FrX.nil
theorem WfX.leaf {op : Op} {v : Vl} {name : Bs} (h0 : arity op = 0) (hv : isV v = true) (hb : -9223372036854775808 ≤ v.n ∧ v.n ≤ 9223372036854775807) : WfX (.mk op v name []) := .mk h0.symm hv hb (fun y hy => by simp at hy)
theorem WfX.two {op : Op} {x y : Ex} (h0 : arity op = 2) (hx : WfX x) (hy : WfX y) : WfX (.mk op Vl.zero [] [x, y]) := .mk h0.symm rfl (by decide) (fun z hz => by simp at hz; rcases hz with rfl | rfl <;> assumption)
theorem WfX.one {op : Op} {x : Ex} (h0 : arity op = 1) (hx : WfX x) : WfX (.mk op Vl.zero [] [x]) := .mk h0.symm rfl (by decide) (fun z hz => by simp at hz; subst hz; assumption)
def awX : Ex := .mk .add Vl.zero [] [.mk .col Vl.zero [97] [], .mk .val ⟨1, 2, []⟩ [] []]
theorem awX_wf : WfX awX := .two rfl (.leaf rfl rfl (by decide)) (.leaf rfl rfl (by decide))
def awC : List Cl := [⟨[97], 1, 0⟩]
theorem awC_ok : ∀ c ∈ awC, kok c.kind := fun c hc => by simp [awC] at hc; subst hc; exact .inr (.inl rfl)
theorem aw1 : kindE awC false awX = (1, 0) := by decide +kernel
theorem aw2 : ofV awC [⟨1, 5, []⟩] awX = .ok ⟨1, 7, []⟩ := by rfl
theorem aw3 : allV awC [[Vl.zero], [Vl.zero]] (.mk .count Vl.zero [] []) = .ok ⟨1, 2, []⟩ := by rfl
theorem awake_t {R : Hp} : Tri Try.prog 10 [] R [] (fun v _ L' => v = .bool true ∧ L' = []) := by
  refine tri_of Try.func10 rfl Try.ntmps10 rfl (fun σ F Q hret hend hpan => ?_)
  try simp only [List.cons_append, List.nil_append]
  refine cj_env eN ?_
  refine cj_seq (fun K1 hK1 => ?_)
  refine cj_region ?_
  refine rv0 rfl rfl rfl (y_assign rfl) ?_
  refine rj_nil ?_
  refine hK1 _ _ _ ?_
  refine cj_seq (fun K2 hK2 => ?_)
  refine cj_region ?_
  refine rv0 rfl rfl rfl (y_build (cells := [_, _, _, _, _, _]) [(0, 1), (1, 3), (4, 1), (5, 1)] Try.underlying29 Try.zeroValue29 (fun _ => rfl) rfl rfl) ?_
  refine rv0 rfl rfl rfl (y_build (cells := [_, _, _]) [(0, 1), (1, 1), (2, 1)] Try.underlying26 Try.zeroValue26 (fun _ => rfl) rfl rfl) ?_
  refine rv0 rfl rfl rfl (y_build (cells := [_, _, _, _, _, _]) [(0, 1), (1, 3), (4, 1), (5, 1)] Try.underlying29 Try.zeroValue29 (fun _ => rfl) rfl rfl) ?_
  refine rj_buildSlice (sz := 6) (wn0 rfl) rfl Try.underlying27 Try.sizeOf29 Try.zeroValue29 rfl rfl rfl (by decide) (by decide) (fun bk => ?_)
  refine rj_freeze (e := 29) (sz := 6) (n := 2) (xs := exC Op.col.str Vl.zero [97] (.slice none 0 0) ++ exC Op.val.str ⟨1, 2, []⟩ [] (.slice none 0 0)) (by (repeat (first|exact zH _|apply zT));done) (fun R1 hR1 hfr1 hxl1 => ?_)
  have hx : RepX R1 awX (exC Op.add.str Vl.zero [] (.slice (some ⟨bk, 0, none⟩) 2 2)) := RepX.of (kidsFr2 hfr1 (.leaf _ _ _) (.leaf _ _ _))
  refine rv0 rfl rfl rfl (y_build (cells := [_, _, _, _, _, _]) [(0, 1), (1, 3), (4, 1), (5, 1)] Try.underlying29 Try.zeroValue29 (fun _ => rfl) rfl rfl) ?_
  refine rj_alloc (wn0 rfl) rfl Try.zeroValue29 rfl (fun b1 => ?_)
  refine rj_stores_all (vs := exC Op.add.str Vl.zero [] (.slice (some ⟨bk, 0, none⟩) 2 2)) ⟨Try.isAgg29, Try.sizeOf29⟩ rfl (wn0 rfl) rfl rfl hx.one (by (repeat (first|exact zH _|apply zT));done) rfl ?_
  refine rj_nil ?_
  refine hK2 _ _ _ ?_
  refine cj_env (eL 1 rfl eN) ?_
  refine cj_seq (fun K3 hK3 => ?_)
  refine cj_region ?_
  refine rv0 rfl rfl rfl (y_build (cells := [_, _, _]) [(0, 1), (1, 1), (2, 1)] Try.underlying66 Try.zeroValue66 (fun _ => rfl) rfl rfl) ?_
  refine rj_buildSlice (sz := 3) (wn0 rfl) rfl Try.underlying35 Try.sizeOf66 Try.zeroValue66 rfl rfl rfl (by decide) (by decide) (fun bc => ?_)
  refine rj_freeze (e := 66) (sz := 3) (n := 1) (xs := colC ⟨[97], 1, 0⟩) (by (repeat (first|exact zH _|apply zT));done) (fun R2 hR2 hfr2 hxl2 => ?_)
  have hc : FrX colE R2 awC (.slice (some ⟨bc, 0, none⟩) 1 1) := colFr1 hfr2
  replace hx := hx.mono hR2
  refine rv0 rfl rfl rfl (y_assign rfl) ?_
  refine rj_nil ?_
  refine hK3 _ _ _ ?_
  refine cj_seq (fun K4 hK4 => ?_)
  refine cj_region ?_
  refine rv0 rfl rfl rfl ((y_loads_all (vs := exC Op.add.str Vl.zero [] (.slice (some ⟨bk, 0, none⟩) 2 2)) ⟨Try.isAgg29, Try.sizeOf29⟩ rfl rfl (by (repeat (first|exact zH _|apply zT));done))) ?_
  refine rv0 rfl rfl rfl (y_move rfl) ?_
  refine rv0 rfl rfl rfl (y_call Try.call12 rfl (Kind_q awX _ awC _ false awX_wf hx hc) (by (repeat (first|exact zN _|(apply zS;focus (repeat (first|exact zH _|apply zT))))))) ?_
  refine rj_eq 19 rfl (v' := tupOf [.int .i64 1, .int .i64 0]) (by rw [aw1]) ?_
  refine rv0 rfl rfl rfl (y_move rfl) ?_
  refine rv0 rfl rfl rfl (y_extract rfl rfl) ?_
  refine rv0 rfl rfl rfl (y_extract rfl rfl) ?_
  refine rv0 rfl rfl rfl (y_assign rfl) ?_
  refine rv0 rfl rfl rfl (y_assign rfl) ?_
  refine rj_nil ?_
  refine hK4 _ _ _ ?_
  refine cj_env (eL 1 rfl (eL 2 rfl (eL 3 rfl (eL 4 rfl eN)))) ?_
  refine cj_seq (fun K5 hK5 => ?_)
  refine cj_region ?_
  refine rv0 rfl rfl rfl ((y_loads_all (vs := exC Op.add.str Vl.zero [] (.slice (some ⟨bk, 0, none⟩) 2 2)) ⟨Try.isAgg29, Try.sizeOf29⟩ rfl rfl (by (repeat (first|exact zH _|apply zT));done))) ?_
  refine rv0 rfl rfl rfl (y_move rfl) ?_
  refine rv0 rfl rfl rfl (y_build (cells := [_, _, _]) [(0, 1), (1, 1), (2, 1)] Try.underlying26 Try.zeroValue26 (fun _ => rfl) rfl rfl) ?_
  refine rj_buildSlice (sz := 3) (wn0 rfl) rfl Try.underlying43 Try.sizeOf26 Try.zeroValue26 rfl rfl rfl (by decide) (by decide) (fun br => ?_)
  refine rj_freeze (e := 26) (sz := 3) (n := 1) (xs := valC ⟨1, 5, []⟩) (by (repeat (first|exact zH _|apply zT));done) (fun R3 hR3 hfr3 hxl3 => ?_)
  refine rv0 rfl rfl rfl (y_call Try.call19 rfl (Of_q awX _ awC _ [⟨1, 5, []⟩] _ awX_wf (hx.mono hR3) (hc.mono hR3) awC_ok (valFr1 hfr3) (fun v hv => by simp at hv; subst hv; exact ⟨by decide, by decide⟩)) (by (repeat (first|exact zN _|(apply zS;focus (repeat (first|exact zH _|apply zT))))))) ?_
  refine rj_eq 27 rfl (v' := tupOf [.agg ⟨valC ⟨1, 7, []⟩⟩, .int .i64 0]) (by rw [aw2]; rfl) ?_
  refine rv0 rfl rfl rfl (y_move rfl) ?_
  refine rv0 rfl rfl rfl (y_extract rfl rfl) ?_
  refine rv0 rfl rfl rfl (y_extract rfl rfl) ?_
  refine rj_alloc (wn0 rfl) rfl Try.zeroValue26 rfl (fun b5 => ?_)
  refine rj_stores_all (vs := valC ⟨1, 7, []⟩) ⟨Try.isAgg26, Try.sizeOf26⟩ rfl (wn0 rfl) rfl rfl (valE.one (R := R) (x := ⟨1, 7, []⟩) rfl) (by (repeat (first|exact zH _|apply zT));done) rfl ?_
  refine rv0 rfl rfl rfl (y_assign rfl) ?_
  refine rj_nil ?_
  refine hK5 _ _ _ ?_
  refine cj_env (eL 2 rfl (eL 3 rfl (eL 4 rfl (eL 5 rfl (eL 6 rfl eN))))) ?_
  refine cj_seq (fun K6 hK6 => ?_)
  refine cj_region ?_
  refine rv0 rfl rfl rfl (y_build (cells := [_, _, _, _, _, _]) [(0, 1), (1, 3), (4, 1), (5, 1)] Try.underlying29 Try.zeroValue29 (fun _ => rfl) rfl rfl) ?_
  refine rv0 rfl rfl rfl (y_move rfl) ?_
  refine rv0 rfl rfl rfl (y_build (cells := [_, _, _]) [(0, 1), (1, 1), (2, 1)] Try.underlying26 Try.zeroValue26 (fun _ => rfl) rfl rfl) ?_
  refine rj_buildSlice (sz := 3) (wn0 rfl) rfl Try.underlying43 Try.sizeOf26 Try.zeroValue26 rfl rfl rfl (by decide) (by decide) (fun br1 => ?_)
  refine rj_freeze (e := 26) (sz := 3) (n := 1) (xs := valC Vl.zero) (by (repeat (first|exact zH _|apply zT));done) (fun R4 hR4 hfr4 hxl4 => ?_)
  have hv1 := valFr1 hfr4
  refine rv0 rfl rfl rfl (y_build (cells := [_, _, _]) [(0, 1), (1, 1), (2, 1)] Try.underlying26 Try.zeroValue26 (fun _ => rfl) rfl rfl) ?_
  refine rj_buildSlice (sz := 3) (wn0 rfl) rfl Try.underlying43 Try.sizeOf26 Try.zeroValue26 rfl rfl rfl (by decide) (by decide) (fun br2 => ?_)
  refine rj_freeze (e := 26) (sz := 3) (n := 1) (xs := valC Vl.zero) (by (repeat (first|exact zH _|apply zT));done) (fun R5 hR5 hfr5 hxl5 => ?_)
  have hv2 := valFr1 hfr5
  refine rj_buildSlice (sz := 1) (wn0 rfl) rfl Try.underlying45 Try.sizeOf43 Try.zeroValue43 rfl rfl rfl (by decide) (by decide) (fun br3 => ?_)
  refine rj_freeze (e := 43) (sz := 1) (n := 2) (xs := [.slice (some ⟨br1, 0, none⟩) 1 1, .slice (some ⟨br2, 0, none⟩) 1 1]) (by (repeat (first|exact zH _|apply zT));done) (fun R6 hR6 hfr6 hxl6 => ?_)
  refine rv0 rfl rfl rfl (y_call Try.call21 rfl (All_q (.mk .count Vl.zero [] []) (exC Op.count.str Vl.zero [] (.slice none 0 0)) awC _ [[Vl.zero], [Vl.zero]] _ (.leaf rfl rfl (by decide)) (.leaf _ _ _) ((((hc.mono hR3).mono hR4).mono hR5).mono hR6) awC_ok (rowFr2 hfr6 ((hv1.mono hR5).mono hR6) (hv2.mono hR6)) (fun row hr v hv => by simp at hr; rcases hr with rfl | rfl <;> (simp at hv; subst hv; exact ⟨by decide, by decide⟩))) (by (repeat (first|exact zN _|(apply zS;focus (repeat (first|exact zH _|apply zT))))))) ?_
  refine rj_eq 38 rfl (v' := tupOf [.agg ⟨valC ⟨1, 2, []⟩⟩, .int .i64 0]) (by rw [aw3]; rfl) ?_
  refine rv0 rfl rfl rfl (y_move rfl) ?_
  refine rv0 rfl rfl rfl (y_extract rfl rfl) ?_
  refine rv0 rfl rfl rfl (y_extract rfl rfl) ?_
  refine rj_alloc (wn0 rfl) rfl Try.zeroValue26 rfl (fun b7 => ?_)
  refine rj_stores_all (vs := valC ⟨1, 2, []⟩) ⟨Try.isAgg26, Try.sizeOf26⟩ rfl (wn0 rfl) rfl rfl (valE.one (R := R) (x := ⟨1, 2, []⟩) rfl) (by (repeat (first|exact zH _|apply zT));done) rfl ?_
  refine rv0 rfl rfl rfl (y_assign rfl) ?_
  refine rj_nil ?_
  refine hK6 _ _ _ ?_
  refine cj_env (eL 3 rfl (eL 4 rfl (eL 5 rfl (eL 6 rfl (eL 7 rfl (eL 8 rfl eN)))))) ?_
  refine cj_seq (fun K7 hK7 => ?_)
  refine cj_region ?_
  refine rv0 rfl rfl rfl (y_move rfl) ?_
  refine rv0 rfl rfl rfl (y_eql rfl rfl) ?_
  refine rv0 rfl rfl rfl (y_move rfl) ?_
  refine rj_val (wn1 rfl rfl rfl rfl) rfl rfl (y_move rfl) ?_
  refine rj_val (wn1 rfl rfl rfl rfl) rfl rfl (y_eql rfl rfl) ?_
  refine rv0 rfl rfl rfl (y_pick_t rfl rfl) ?_
  refine rv0 rfl rfl rfl (y_move rfl) ?_
  refine rj_val (wn1 rfl rfl rfl rfl) rfl rfl (y_move rfl) ?_
  refine rj_val (wn1 rfl rfl rfl rfl) rfl rfl (y_eql rfl rfl) ?_
  refine rv0 rfl rfl rfl (y_pick_t rfl rfl) ?_
  refine rv0 rfl rfl rfl (y_move rfl) ?_
  refine rj_val (wn1 rfl rfl rfl rfl) rfl rfl (y_move rfl) ?_
  refine rj_val (wn1 rfl rfl rfl rfl) rfl rfl (y_eql rfl rfl) ?_
  refine rv0 rfl rfl rfl (y_pick_t rfl rfl) ?_
  refine rv0 rfl rfl rfl (y_move rfl) ?_
  refine rj_val (wn1 rfl rfl rfl rfl) rfl rfl (y_fieldAddr (k := 1) Try.underlying26 rfl (n := 1) (by decide) Try.sizeOf2 rfl) ?_
  refine rj_val (wn1 rfl rfl rfl rfl) rfl rfl ((y_load ⟨Try.isAgg2, Try.sizeOf2⟩ rfl (by (repeat (first|exact zH _|apply zT));done) rfl)) ?_
  refine rj_val (wn1 rfl rfl rfl rfl) rfl rfl (y_eql rfl rfl) ?_
  refine rv0 rfl rfl rfl (y_pick_t rfl rfl) ?_
  refine rv0 rfl rfl rfl (y_move rfl) ?_
  refine rj_val (wn1 rfl rfl rfl rfl) rfl rfl (y_fieldAddr (k := 1) Try.underlying26 rfl (n := 1) (by decide) Try.sizeOf2 rfl) ?_
  first | refine rj_val (wn1 rfl rfl rfl rfl) rfl rfl (y_load ⟨Try.isAgg2, Try.sizeOf2⟩ rfl (by (repeat (first|exact zH _|apply zT));done) rfl) ?_ | refine rj_val (wn1 rfl rfl rfl rfl) rfl rfl (y_load_slc ⟨Try.isAgg2, Try.sizeOf2⟩ rfl (by (repeat (first|exact zH _|apply zT));done) rfl) ?_
  refine rj_val (wn1 rfl rfl rfl rfl) rfl rfl (y_eql rfl rfl) ?_
  refine rv0 rfl rfl rfl (y_pick_t rfl rfl) ?_
  refine rv0 rfl rfl rfl (y_move rfl) ?_
  refine rj_val (wn1 rfl rfl rfl rfl) rfl rfl ((y_loads_all (vs := valC ⟨1, 7, []⟩) ⟨Try.isAgg26, Try.sizeOf26⟩ rfl rfl (by (repeat (first|exact zH _|apply zT));done))) ?_
  refine rj_val (wn1 rfl rfl rfl rfl) rfl rfl (y_call Try.call26 rfl (true_q ⟨1, 7, []⟩) (by (repeat (first|exact zN _|(apply zS;focus (repeat (first|exact zH _|apply zT))))))) ?_
  refine rv0 rfl rfl rfl (y_pick_t rfl rfl) ?_
  refine rv0 rfl rfl rfl (y_move rfl) ?_
  refine rj_val (wn1 rfl rfl rfl rfl) rfl rfl ((y_loads_all (vs := valC ⟨1, 7, []⟩) ⟨Try.isAgg26, Try.sizeOf26⟩ rfl rfl (by (repeat (first|exact zH _|apply zT));done))) ?_
  refine rj_val (wn1 rfl rfl rfl rfl) rfl rfl ((y_loads_all (vs := valC ⟨1, 2, []⟩) ⟨Try.isAgg26, Try.sizeOf26⟩ rfl rfl (by (repeat (first|exact zH _|apply zT));done))) ?_
  refine rj_val (wn1 rfl rfl rfl rfl) rfl rfl (y_call Try.call24 rfl (compare_q ⟨1, 7, []⟩ ⟨1, 2, []⟩) (by (repeat (first|exact zN _|(apply zS;focus (repeat (first|exact zH _|apply zT))))))) ?_
  refine rj_val (wn1 rfl rfl rfl rfl) rfl rfl (y_gtr rfl rfl) ?_
  refine rv0 rfl rfl rfl (y_pick_t rfl rfl) ?_
  refine rv0 rfl rfl rfl (y_assign rfl) ?_
  refine rj_nil ?_
  refine hK7 _ _ _ ?_
  refine cj_env (eL 0 rfl eN) ?_
  refine cj_ret ?_
  refine hret _ _ _ ?_
  apply ej_ret Try.results10 (.cons (rv_tmp rfl) .nil) _ [] (Hp.le_trans hR1 (Hp.le_trans hR2 (Hp.le_trans hR3 (Hp.le_trans hR4 (Hp.le_trans hR5 hR6))))) rfl
  case hp => exact ⟨rfl, rfl⟩
  case hS => (repeat (first|exact zR _|(apply zP;focus (repeat (first|exact zH _|apply zT)))|apply zD|exact zA _ _))
end V
end Go.Proofs.Ytghgifgmacapcaa
