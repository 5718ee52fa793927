/- The law EvalGroupsApart, walked. -/
import Derived.Test.YtghgifgmacapcaaT18y
set_option linter.unusedSimpArgs false
set_option linter.unusedVariables false
set_option maxRecDepth 100000
namespace Go.Proofs.Ytghgifgmacapcaa
open Go.RowKit
namespace V
set_option maxHeartbeats 4000000
/-! ### groups of one number, plain -/
def oV : Option Int → Vl
  | none => Vl.zero
  | some n => ⟨1, n, []⟩
def gv (x : Vl) : Option Int := if x.kind = 1 ∧ x.s = [] ∧ x.n ≤ 1099511627776 ∧ -1099511627776 ≤ x.n then some x.n else none
def rowsG (l : List (Option Int)) : List (List Vl) := l.map (fun o => [oV o])
def ostep (op : Op) : Option Int → Option Int → Option Int
  | o, none => o
  | none, some v => some v
  | some a, some v => some (if op = .sum then a + v else if op = .min then min a v else max a v)
def ofold (op : Op) (l : List (Option Int)) : Option Int := l.foldl (ostep op) none
theorem ostep_none (op : Op) (o : Option Int) : ostep op none o = o := by cases o <;> rfl
theorem ostep_assoc (op : Op) (a b d : Option Int) : ostep op (ostep op a b) d = ostep op a (ostep op b d) := by
  cases a <;> cases b <;> cases d <;> simp only [ostep]
  congr 1
  split
  · omega
  · split <;> omega
theorem ofold_init (op : Op) : ∀ (l : List (Option Int)) (a : Option Int), l.foldl (ostep op) a = ostep op a (ofold op l)
  | [], a => by cases a <;> rfl
  | x :: l, a => by
    unfold ofold
    simp only [List.foldl_cons]
    rw [ofold_init op l (ostep op a x), ofold_init op l (ostep op none x), ostep_none, ostep_assoc]
theorem ofold_app (op : Op) (l m : List (Option Int)) : ofold op (l ++ m) = ostep op (ofold op l) (ofold op m) := by
  unfold ofold
  rw [List.foldl_append, ofold_init op m]; rfl
def gaX (op : Op) : Ex := if op = .count then .mk .count Vl.zero [] [] else .mk op Vl.zero [] [.mk .col Vl.zero [97] []]
def gOp (op : Op) : Bool := match op with
  | .count | .sum | .min | .max => true
  | _ => false
theorem gaX_wf {op : Op} (h : gOp op = true) : WfX (gaX op) := by
  unfold gaX
  split
  · exact .leaf rfl rfl (by decide)
  · refine .one ?_ (.leaf rfl rfl (by decide))
    cases op <;> first | rfl | (exact absurd rfl ‹_›) | cases h
def gaV (op : Op) (rows : List (List Vl)) : Vl := match allV awC rows (gaX op) with
  | .ok v => v
  | .error _ => Vl.zero
theorem gaV_pair (op : Op) (rows : List (List Vl)) : ∃ e, pairV (allV awC rows (gaX op)) = tupOf [.agg ⟨valC (gaV op rows)⟩, .int .i64 e] := by
  unfold gaV
  cases allV awC rows (gaX op) with
  | ok v => exact ⟨0, rfl⟩
  | error e => exact ⟨e, rfl⟩
theorem rowsG_ok (l : List (Option Int)) : (rowsG l).all (all2 awC) = true := by
  rw [List.all_eq_true]
  intro r hr
  obtain ⟨o, _, rfl⟩ := List.mem_map.1 hr
  cases o <;> rfl
theorem gaV_ev {op : Op} (h : gOp op = true) (l : List (Option Int)) : allV awC (rowsG l) (gaX op) = evX vstep gstep awC (rowsG l) (gaX op) := by
  unfold allV
  rw [if_pos]
  exact ⟨(by cases op <;> first | decide +kernel | cases h), (by cases op <;> first | decide +kernel | cases h), rowsG_ok l⟩
theorem gaV_count (l : List (Option Int)) : gaV .count (rowsG l) = ⟨1, l.length, []⟩ := by
  unfold gaV
  rw [gaV_ev rfl]
  simp [gaX, evX, rowsG]
theorem ok0 : (oV none).kind = 0 := rfl
theorem ok1 (b : Int) : ¬ (oV (some b)).kind = 0 := by show ¬ (1 : Int) = 0; decide
theorem gstep_o {op : Op} (h : op = .sum ∨ op = .min ∨ op = .max) (o v : Option Int) (hs : op = .sum → ∀ a b, o = some a → v = some b → inI (a + b)) : gstep op (oV o) (oV v) = .ok (oV (ostep op o v)) := by
  cases v with
  | none => unfold gstep; rw [if_pos ok0]; cases o <;> rfl
  | some b =>
    cases o with
    | none => unfold gstep; rw [if_neg (ok1 b), if_pos ok0]; rfl
    | some a =>
      unfold gstep
      rw [if_neg (ok1 b), if_neg (ok1 a)]
      have hc : cmpV (oV (some b)) (oV (some a)) < 0 ↔ b < a := by
        have e : cmpV (oV (some b)) (oV (some a)) = cmpI b a := by
          unfold cmpV oV
          have e1 : cmpI (1 : Int) 1 = 0 := rfl
          have e2 : Lib.compareBytes [] [] = 0 := rfl
          simp only [e1, e2, orI, if_true]
          split <;> omega
        rw [e]
        unfold cmpI
        split
        · omega
        · split <;> omega
      rcases h with rfl | rfl | rfl
      · rw [if_pos rfl]
        have := hs rfl a b rfl rfl
        show (match num64 (a + b) with | .ok n => _ | .error e => _) = _
        unfold num64
        rw [if_pos this]; rfl
      · rw [if_neg (by decide)]
        by_cases hba : b < a
        · rw [if_pos (by simp [hc, hba])]
          have : min a b = b := by omega
          simp [ostep, this]
        · rw [if_neg (by simp [hc, hba])]
          have : min a b = a := by omega
          simp [ostep, this]
      · rw [if_neg (by decide)]
        by_cases hba : b < a
        · rw [if_neg (by simp [hc, hba])]
          have : max a b = a := by omega
          simp [ostep, this]
        · rw [if_pos (by simp [hc, hba])]
          have : max a b = b := by omega
          simp [ostep, this]
def bdO (k : Nat) (o : Option Int) : Prop := ∀ n, o = some n → -(k * 1099511627776 : Int) ≤ n ∧ n ≤ k * 1099511627776
theorem foldE_o {op : Op} (h : op = .sum ∨ op = .min ∨ op = .max) : ∀ (l : List (Option Int)) (o : Option Int) (k : Nat), (∀ x ∈ l, bdO 1 x) → bdO k o → k + l.length ≤ 12 →
    foldE (fun row => evX vstep gstep awC [row] (.mk .col Vl.zero [97] [])) (gstep op) (rowsG l) (oV o) = .ok (oV (l.foldl (ostep op) o))
  | [], o, k, _, _, _ => rfl
  | x :: l, o, k, hx, hk, hn => by
    simp only [List.length_cons] at hn
    have e : evX vstep gstep awC [[oV x]] (.mk .col Vl.zero [97] []) = .ok (oV x) := by rw [evX, if_neg (by decide), if_pos rfl]; rfl
    have hb := hx x (by simp)
    have hs : op = .sum → ∀ a b, o = some a → x = some b → inI (a + b) := fun _ a b ha hb2 => by
      have h1 := hk a ha
      have h2 := hb b hb2
      unfold inI; omega
    show foldE _ _ ([oV x] :: rowsG l) _ = _
    rw [foldE, e]
    simp only
    rw [gstep_o h o x hs]
    simp only [List.foldl_cons]
    refine foldE_o h l _ (k + 1) (fun y hy => hx y (by simp [hy])) ?_ (by omega)
    intro n hn2
    cases x with
    | none =>
      have h1 := hk n hn2
      omega
    | some b =>
      have h2 := hb b rfl
      cases o with
      | none => simp only [ostep] at hn2; cases hn2; omega
      | some a =>
        have h1 := hk a rfl
        simp only [ostep] at hn2
        cases hn2
        split
        · omega
        · split <;> omega
theorem gaV_fold {op : Op} (h : op = .sum ∨ op = .min ∨ op = .max) (l : List (Option Int)) (hb : ∀ x ∈ l, bdO 1 x) (hl : l.length ≤ 12) : gaV op (rowsG l) = oV (ofold op l) := by
  have hg : gOp op = true := by rcases h with rfl | rfl | rfl <;> rfl
  have hX : gaX op = .mk op Vl.zero [] [.mk .col Vl.zero [97] []] := by unfold gaX; rw [if_neg (by rcases h with rfl | rfl | rfl <;> decide)]
  unfold gaV
  rw [gaV_ev hg, hX, evX, if_neg (by rcases h with rfl | rfl | rfl <;> decide), if_neg (by rcases h with rfl | rfl | rfl <;> decide), if_neg (by rcases h with rfl | rfl | rfl <;> decide), if_pos (by rcases h with rfl | rfl | rfl <;> rfl), evG]
  have := foldE_o h l none 0 hb (fun n hn => by cases hn) (by omega)
  rw [show oV none = Vl.zero from rfl] at this
  rw [this]; rfl
theorem gv_bd (x : Vl) : bdO 1 (gv x) := by
  intro n hn
  unfold gv at hn
  split at hn
  · cases hn; rename_i h; omega
  · cases hn
/-- two parts and the whole -/
theorem parts_sum {op : Op} (h : op = .sum ∨ op = .min ∨ op = .max) {l m : List (Option Int)} (hb : ∀ x ∈ l ++ m, bdO 1 x) (hl : (l ++ m).length ≤ 12) :
    gaV op (rowsG (l ++ m)) = oV (ostep op (ofold op l) (ofold op m)) ∧ gaV op (rowsG l) = oV (ofold op l) ∧ gaV op (rowsG m) = oV (ofold op m) := by
  simp at hl
  exact ⟨by rw [gaV_fold h _ hb (by simpa using hl), ofold_app], gaV_fold h _ (fun x hx => hb x (by simp [hx])) (by omega), gaV_fold h _ (fun x hx => hb x (by simp [hx])) (by omega)⟩
def ops4 : List Op := [.count, .sum, .min, .max]
theorem ops4_cases {i : Nat} {op : Op} (h : ops4[i]? = some op) : gOp op = true ∧ (op = .count ∨ (op = .sum ∨ op = .min ∨ op = .max)) := by
  have := List.mem_of_getElem? h
  simp only [ops4, List.mem_cons, List.not_mem_nil, or_false] at this
  rcases this with rfl | rfl | rfl | rfl <;> simp [gOp]
theorem oV_null {o : Option Int} : (oV o).kind = 0 ↔ o = none := by cases o <;> simp [oV, Vl.zero]
/-- what the law wants -/
theorem want_1 {op : Op} (h : op = .count ∨ (op = .sum ∨ op = .min ∨ op = .max)) {l m : List (Option Int)} (hb : ∀ x ∈ l ++ m, bdO 1 x) (hl : (l ++ m).length ≤ 12) (hz : (gaV op (rowsG l)).kind = 0) : gaV op (rowsG (l ++ m)) = gaV op (rowsG m) := by
  rcases h with rfl | h
  · rw [gaV_count] at hz; cases hz
  · obtain ⟨h1, h2, h3⟩ := parts_sum h hb hl
    rw [h2, oV_null] at hz
    rw [h1, h3, hz, ostep_none]
theorem want_2 {op : Op} (h : op = .count ∨ (op = .sum ∨ op = .min ∨ op = .max)) {l m : List (Option Int)} (hb : ∀ x ∈ l ++ m, bdO 1 x) (hl : (l ++ m).length ≤ 12) (hz : (gaV op (rowsG m)).kind = 0) : gaV op (rowsG (l ++ m)) = gaV op (rowsG l) := by
  rcases h with rfl | h
  · rw [gaV_count] at hz; cases hz
  · obtain ⟨h1, h2, h3⟩ := parts_sum h hb hl
    rw [h3, oV_null] at hz
    rw [h1, h2, hz]; cases ofold op l <;> rfl
theorem want_3 {op : Op} (h : op = .count ∨ (op = .sum ∨ op = .min ∨ op = .max)) {l m : List (Option Int)} (hb : ∀ x ∈ l ++ m, bdO 1 x) (hl : (l ++ m).length ≤ 12) (hy : ¬ (gaV op (rowsG l)).kind = 0) (hz : ¬ (gaV op (rowsG m)).kind = 0) :
    gaV op (rowsG (l ++ m)) = ⟨1, if op = .min then min (gaV op (rowsG l)).n (gaV op (rowsG m)).n else if op = .max then max (gaV op (rowsG l)).n (gaV op (rowsG m)).n else IntKind.i64.wrap ((gaV op (rowsG l)).n + (gaV op (rowsG m)).n), []⟩ := by
  rcases h with rfl | h
  · rw [gaV_count, gaV_count, gaV_count, if_neg (by decide), if_neg (by decide)]
    simp only [List.length_append, Vl.mk.injEq, true_and, and_true]
    simp at hl
    rw [wrap_i64_in (by first | omega | (unfold inI; omega))]; omega
  · obtain ⟨h1, h2, h3⟩ := parts_sum h hb hl
    have hbl := gaV_fold h l (fun x hx => hb x (by simp [hx])) (by simp at hl; omega)
    rw [h2, oV_null] at hy
    rw [h3, oV_null] at hz
    obtain ⟨a, ha⟩ := Option.ne_none_iff_exists'.1 hy
    obtain ⟨b, hb2⟩ := Option.ne_none_iff_exists'.1 hz
    have hin : op = .sum → inI (a + b) := by
      rintro rfl
      have hw := gaV_ev (op := .sum) rfl (l ++ m)
      have hs := foldE_o (op := .sum) (.inl rfl) (l ++ m) none 0 hb (fun n hn => by cases hn) (by omega)
      have hk : ∀ (q : List (Option Int)) (o : Option Int) (k : Nat), (∀ x ∈ q, bdO 1 x) → bdO k o → bdO (k + q.length) (q.foldl (ostep .sum) o) := by
        intro q
        induction q with
        | nil => intro o k _ h; exact h
        | cons x q ih =>
          intro o k hx ho
          have hb := hx x (by simp)
          rw [List.foldl_cons, List.length_cons, show k + (q.length + 1) = (k + 1) + q.length by omega]
          refine ih _ _ (fun y hy => hx y (by simp [hy])) ?_
          intro n hn2
          cases x with
          | none => have h1 := ho n hn2; omega
          | some b =>
            have h2 := hb b rfl
            cases o with
            | none => simp only [ostep] at hn2; cases hn2; omega
            | some a => have h1 := ho a rfl; simp only [ostep] at hn2; cases hn2; simp; omega
      have := hk (l ++ m) none 0 hb (fun n hn => by cases hn) (a + b) (by
        have := ofold_app .sum l m
        unfold ofold at this ha hb2
        rw [this, ha, hb2]; rfl)
      unfold inI; omega
    rw [h1, h2, h3, ha, hb2]
    simp only [ostep, oV, Vl.mk.injEq, true_and, and_true]
    rcases h with rfl | rfl | rfl
    · simp; rw [wrap_i64_in (hin rfl)]
    · simp
    · simp
/-! ### the walk -/
theorem of_q2 {R : Hp} (op : Op) (h : gOp op = true) (rows : List (List Vl)) (vr vc : Value) (b : Nat) (hr : FrX rowE R rows vr) (hin : ∀ row ∈ rows, ∀ v ∈ row, inV v) (hc : FrX colE R awC vc) :
    QTri Try.prog 32 [.string (str op.str), vr, .pointer (some ⟨b, 0, none⟩)] R [blk b [vc] 35] (.agg ⟨valC (gaV op rows)⟩) := by
  obtain ⟨e, hp⟩ := gaV_pair op rows
  have hcv := hc.one
  refine Tri.q2 ?_
  refine tri_of Try.func32 rfl Try.ntmps32 rfl (fun σ F Q hret hend hpan => ?_)
  try simp only [List.cons_append, List.nil_append]
  refine cj_env (eL 0 rfl (eL 1 rfl (eL 2 rfl eN))) ?_
  refine cj_seq (fun K1 hK1 => ?_)
  refine cj_region ?_
  refine rj_alloc (wn0 rfl) rfl Try.zeroValue26 rfl (fun b5 => ?_)
  refine rj_nil ?_
  refine hK1 _ _ _ ?_
  refine cj_seq (fun K2 hK2 => ?_)
  refine cj_region ?_
  refine rv0 rfl rfl rfl (y_move rfl) ?_
  refine rv0 rfl rfl rfl (y_build (cells := [_, _, _, _, _, _]) [(0, 1), (1, 3), (4, 1), (5, 1)] Try.underlying29 Try.zeroValue29 (fun _ => rfl) rfl rfl) ?_
  refine rj_buildSlice (sz := 6) (wn0 rfl) rfl Try.underlying27 Try.sizeOf29 Try.zeroValue29 rfl rfl rfl (by decide) (by decide) (fun bk => ?_)
  refine rj_freeze (e := 29) (sz := 6) (n := 1) (xs := exC Op.col.str Vl.zero [97] (.slice none 0 0)) (by (repeat (first|exact zH _|apply zT));done) (fun R1 hR1 hfr1 hxl1 => ?_)
  have hkids := kidsFr1 hfr1 (.leaf .col Vl.zero [97])
  refine rv0 rfl rfl rfl (y_build (cells := [_, _, _, _, _, _]) [(0, 1), (1, 3), (4, 1), (5, 1)] Try.underlying29 Try.zeroValue29 (fun _ => rfl) rfl rfl) ?_
  refine rj_alloc (wn0 rfl) rfl Try.zeroValue29 rfl (fun b6 => ?_)
  refine rj_stores_all (vs := exC op.str Vl.zero [] (.slice (some ⟨bk, 0, none⟩) 1 1)) ⟨Try.isAgg29, Try.sizeOf29⟩ rfl (wn0 rfl) rfl rfl (RepX.one (R := R1) (x := .mk op Vl.zero [] [.mk .col Vl.zero [97] []]) (RepX.of hkids)) (by (repeat (first|exact zH _|apply zT));done) rfl ?_
  refine rj_nil ?_
  refine hK2 _ _ _ ?_
  refine cj_env (eL 0 rfl (eL 1 rfl (eL 2 rfl (eL 5 rfl (eL 6 rfl eN))))) ?_
  refine cj_seq (fun K3 hK3 => ?_)
  have hJ4 : ∀ (x : Value), RepX R1 (gaX op) (exC op.str Vl.zero [] x) → EJ ⟨Try.prog, 24, σ⟩ K3 [(1, vr), (2, .pointer (some ⟨b, 0, none⟩)), (5, .pointer (some ⟨b5, 0, none⟩)), (6, .pointer (some ⟨b6, 0, none⟩))] R1 (blk b6 (exC op.str Vl.zero [] x) 29 :: blk b5 (valC Vl.zero) 26 :: blk b [vc] 35 :: F) := by
   rintro vk hx
   try dsimp only
   refine hK3 _ _ _ ?_
   refine cj_seq (fun K4 hK4 => ?_)
   refine cj_region ?_
   refine rv0 rfl rfl rfl ((y_loads_all (vs := exC op.str Vl.zero [] vk) ⟨Try.isAgg29, Try.sizeOf29⟩ rfl rfl (by (repeat (first|exact zH _|apply zT));done))) ?_
   first | refine rv0 rfl rfl rfl (y_load ⟨Try.isAgg35, Try.sizeOf35⟩ rfl (by (repeat (first|exact zH _|apply zT));done) rfl) ?_ | refine rv0 rfl rfl rfl (y_load_slc ⟨Try.isAgg35, Try.sizeOf35⟩ rfl (by (repeat (first|exact zH _|apply zT));done) rfl) ?_
   refine rv0 rfl rfl rfl (y_move rfl) ?_
   refine rv0 rfl rfl rfl (y_call Try.call21 rfl ((All_q (gaX op) (exC op.str Vl.zero [] vk) awC vc rows vr (gaX_wf h) hx (hc.mono hR1) awC_ok (hr.mono hR1) hin).eq hp) (by (repeat (first|exact zN _|(apply zS;focus (repeat (first|exact zH _|apply zT))))))) ?_
   refine rv0 rfl rfl rfl (y_move rfl) ?_
   refine rv0 rfl rfl rfl (y_extract rfl rfl) ?_
   refine rv0 rfl rfl rfl (y_extract rfl rfl) ?_
   refine rj_alloc (wn0 rfl) rfl Try.zeroValue26 rfl (fun b7 => ?_)
   refine rj_stores_all (vs := valC (gaV op rows)) ⟨Try.isAgg26, Try.sizeOf26⟩ rfl (wn0 rfl) rfl rfl (valE.one (R := R) (x := gaV op rows) rfl) (by (repeat (first|exact zH _|apply zT));done) rfl ?_
   refine rv0 rfl rfl rfl (y_assign rfl) ?_
   refine rj_nil ?_
   refine hK4 _ _ _ ?_
   refine cj_env (eL 5 rfl (eL 7 rfl eN)) ?_
   refine cj_seq (fun K5 hK5 => ?_)
   refine cj_region ?_
   refine rv0 rfl rfl rfl ((y_loads_all (vs := valC (gaV op rows)) ⟨Try.isAgg26, Try.sizeOf26⟩ rfl rfl (by (repeat (first|exact zH _|apply zT));done))) ?_
   refine rj_stores_all (vs := valC (gaV op rows)) ⟨Try.isAgg26, Try.sizeOf26⟩ rfl (wn0 rfl) rfl rfl (valE.one (R := R) (x := gaV op rows) rfl) (by (repeat (first|exact zH _|apply zT));done) rfl ?_
   refine rj_nil ?_
   refine hK5 _ _ _ ?_
   refine cj_ret ?_
   refine hret _ _ _ ?_
   apply ej_ret Try.results32 (.cons (rv_cells ⟨Try.isAgg26, Try.sizeOf26⟩ rfl (by (repeat (first|exact zH _|apply zT));done) rfl rfl) .nil) _ [blk b [vc] 35] hR1 rfl
   case hp => exact ⟨rfl, rfl⟩
   case hS => (repeat (first|exact zR _|(apply zP;focus (repeat (first|exact zH _|apply zT)))|apply zD|exact zA _ _))
  refine cj_seq (fun K6 hK6 => ?_)
  refine cj_region ?_
  refine rv0 rfl rfl rfl (y_move rfl) ?_
  refine rv0 rfl rfl rfl (y_seql rfl rfl) ?_
  refine rj_nil ?_
  refine hK6 _ _ _ ?_
  refine cj_cond rfl (fun hc14 => ?_) (fun hc14 => ?_)
  ·have hcnt : op = .count := Op.is (op := op) hc14 rfl
   refine cj_region ?_
   refine rv0 rfl rfl rfl (y_fieldAddr (k := 5) Try.underlying29 rfl (n := 1) (by decide) Try.sizeOf27 rfl) ?_
   refine rj_store ⟨Try.isAgg27, Try.sizeOf27⟩ (wn0 rfl) rfl rfl (by (first | rfl | assumption | (apply cutV_one; assumption))) (by (repeat (first|exact zH _|apply zT));done) rfl rfl ?_
   refine rj_nil ?_
   refine ej_join hJ4 (.slice none 0 0) (by rw [hcnt]; exact .leaf _ _ _) (eC rfl (eC rfl (eC rfl (eC rfl eN)))) rfl (by (repeat (first|exact zR _|(apply zP;focus (repeat (first|exact zH _|apply zT)))|apply zD|exact zA _ _)))
  ·have hcnt : ¬ op = .count := by rintro rfl; simp [Op.str] at hc14
   refine cj_skip ?_
   refine ej_join hJ4 (.slice (some ⟨bk, 0, none⟩) 1 1) (by unfold gaX; rw [if_neg hcnt]; exact RepX.of hkids) (eC rfl (eC rfl (eC rfl (eC rfl eN)))) rfl (by (repeat (first|exact zR _|(apply zP;focus (repeat (first|exact zH _|apply zT)))|apply zD|exact zA _ _)))
theorem strs4 {i : Nat} {op : Op} (h : ops4[i]? = some op) : nth ([[99, 111, 117, 110, 116], [115, 117, 109], [109, 105, 110], [109, 97, 120]].map fun s => Value.string (str s)) ((i : Int).toNat * 1) = some (.string (str op.str)) := by
  match i with
  | 0 => cases h; rfl
  | 1 => cases h; rfl
  | 2 => cases h; rfl
  | 3 => cases h; rfl
  | i + 4 => simp [ops4] at h
theorem vals_sl {R : Hp} {v : Value} {ys : List (Int × Int × List UInt8)} (h : slcR 3 vlR R [v] ys) : FrX valE R (ys.map vlOf) v ∧ ∀ x ∈ ys.map vlOf, inV x :=
  ⟨slcR_frx (T := valE) vlOf (fun c x hc h => (vlR_E hc h).1) h, fun m hm => by
    obtain ⟨y, hy, rfl⟩ := List.mem_map.1 hm
    obtain ⟨c, hc, h1⟩ := slcR_all h y hy
    exact ⟨(vlR_E hc h1).2.1, (vlR_E hc h1).2.2⟩⟩
theorem rowsG_in (l : List (Option Int)) (hb : ∀ x ∈ l, bdO 1 x) : ∀ row ∈ rowsG l, ∀ v ∈ row, inV v := fun r hr v hv => by
  obtain ⟨o, ho, rfl⟩ := List.mem_map.1 hr
  simp at hv; subst hv
  have h := hb o ho
  cases o with
  | none => exact ⟨by decide, by decide⟩
  | some n =>
    have := h n rfl
    exact ⟨by show inI n; unfold inI; omega, by show ([] : Bs).length ≤ maxLen; decide⟩
theorem evalGroupsApart_t {R : Hp} (v0 : Value) (ys : List (Int × Int × List UInt8)) (h0 : slcR 3 vlR R [v0] ys) (a : Int) (ha0 : IntKind.u8.min ≤ a ∧ a ≤ IntKind.u8.max) :
    Tri Try.prog 9 [v0, .int .u8 a] R [] (fun v _ _ => v = .bool true) := by
  obtain ⟨hls, hin⟩ := vals_sl h0
  generalize ys.map vlOf = l at hls hin
  obtain ⟨q, cap, rfl, hcap, hcm⟩ := hls.shape
  have ha : 0 ≤ a ∧ a ≤ 255 := by simpa [IntKind.min, IntKind.max, IntKind.signed, IntKind.bits] using ha0
  obtain ⟨N, rfl⟩ := Int.eq_ofNat_of_zero_le ha.1
  refine tri_of Try.func9 rfl Try.ntmps9 rfl (fun σ F Q hret hend hpan => ?_)
  try simp only [List.cons_append, List.nil_append]
  refine cj_env (eL 0 rfl (eL 1 rfl eN)) ?_
  refine cj_seq (fun K1 hK1 => ?_)
  refine cj_region ?_
  refine rv0 rfl rfl rfl (y_assign rfl) ?_
  refine rj_nil ?_
  refine hK1 _ _ _ ?_
  refine cj_seq (fun K2 hK2 => ?_)
  refine cj_seq (fun K3 hK3 => ?_)
  refine cj_region ?_
  refine rj_call (wn0 rfl) rfl Try.call10 rfl (awake_t) (by (repeat (first|exact zN _|(apply zS;focus (repeat (first|exact zH _|apply zT)))))) (fun _ _ _ _ h => h.elim) ?_
  rintro v R0 L' hR0 ⟨rfl, rfl⟩
  replace hls := hls.mono hR0
  try simp only [List.cons_append, List.nil_append]
  refine rv0 rfl rfl rfl (y_not rfl) ?_
  refine rj_nil ?_
  refine hK3 _ _ _ ?_
  refine cj_cond_f rfl ?_
  refine cj_skip ?_
  refine hK2 _ _ _ ?_
  refine cj_env (eL 0 rfl (eL 1 rfl eN)) ?_
  refine cj_seq (fun K4 hK4 => ?_)
  refine cj_seq (fun K5 hK5 => ?_)
  refine cj_region ?_
  refine rv0 rfl rfl rfl (y_move rfl) ?_
  first | refine rv0 rfl rfl rfl (y_len_sl Try.underlying43 rfl) ?_ | refine rv0 rfl rfl rfl (y_len_slc Try.underlying43 rfl (by (repeat (first|exact zH _|apply zT));done)) ?_
  refine rv0 rfl rfl rfl (y_gtr rfl rfl) ?_
  refine rv0 rfl rfl rfl (y_move rfl) ?_
  refine rj_part 21 rfl (fun hg21 => ?_) (fun hg21 => ?_)
  ·try simp only [dT, dF, nT, nF, tF, fT] at hg21
   refine rj_skip (wn2 rfl rfl rfl rfl rfl) rfl rfl ?_
   refine rj_skip (wn2 rfl rfl rfl rfl rfl) rfl rfl ?_
   refine rj_skip (wn2 rfl rfl rfl rfl rfl) rfl rfl ?_
   refine rj_skip (wn2 rfl rfl rfl rfl rfl) rfl rfl ?_
   refine rj_skip (wn2 rfl rfl rfl rfl rfl) rfl rfl ?_
   refine rv0 rfl rfl rfl (y_pick_t rfl rfl) ?_
   refine rj_nil ?_
   refine hK5 _ _ _ ?_
   refine cj_env (eL 0 rfl (eL 1 rfl (eL 27 rfl eN))) ?_
   refine cj_cond_t rfl ?_
   refine cj_seq (fun K6 hK6 => ?_)
   refine cj_region ?_
   refine rv0 rfl rfl rfl (y_assign rfl) ?_
   refine rj_nil ?_
   refine hK6 _ _ _ ?_
   refine cj_env (eL 4 rfl eN) ?_
   refine cj_ret ?_
   refine hret _ _ _ ?_
   apply ej_ret Try.results9 (.cons (rv_tmp rfl) .nil) _ [] (by first | exact hR0 | exact Hp.le_trans hR0 (Hp.le_trans hR1 (Hp.le_trans hR3 hR4))) rfl
   case hp => rfl
   case hS => (repeat (first|exact zR _|(apply zP;focus (repeat (first|exact zH _|apply zT)))|apply zD|exact zA _ _))
  ·have hl12 : l.length ≤ 12 := by (try simp at hg21); omega
   refine rj_val (wn1 rfl rfl rfl rfl) rfl rfl (y_move rfl) ?_
   first | refine rj_val (wn1 rfl rfl rfl rfl) rfl rfl (y_conv_in Try.underlying5 Try.underlying3 rfl (by (simp only [IntKind.min, IntKind.max, IntKind.signed, IntKind.bits, Bool.false_eq_true, ite_false, ite_true]; omega))) ?_ | refine rj_val (wn1 rfl rfl rfl rfl) rfl rfl (y_conv Try.underlying5 Try.underlying3 rfl) ?_
   refine rj_val (wn1 rfl rfl rfl rfl) rfl rfl (y_move rfl) ?_
   first | refine rj_val (wn1 rfl rfl rfl rfl) rfl rfl (y_len_sl Try.underlying43 rfl) ?_ | refine rj_val (wn1 rfl rfl rfl rfl) rfl rfl (y_len_slc Try.underlying43 rfl (by (repeat (first|exact zH _|apply zT));done)) ?_
   refine rj_val (wn1 rfl rfl rfl rfl) rfl rfl (y_gtr rfl rfl) ?_
   refine rv0 rfl rfl rfl (y_pick_f rfl rfl) ?_
   refine rj_nil ?_
   refine hK5 _ _ _ ?_
   refine cj_env (eL 0 rfl (eL 1 rfl (eL 27 rfl eN))) ?_
   refine cj_cond rfl (fun hc27 => ?_) (fun hc27 => ?_)
   ·try simp only [dT, dF, nT, nF, tF, fT] at hc27
    refine cj_seq (fun K8 hK8 => ?_)
    refine cj_region ?_
    refine rv0 rfl rfl rfl (y_assign rfl) ?_
    refine rj_nil ?_
    refine hK8 _ _ _ ?_
    refine cj_env (eL 4 rfl eN) ?_
    refine cj_ret ?_
    refine hret _ _ _ ?_
    apply ej_ret Try.results9 (.cons (rv_tmp rfl) .nil) _ [] (by first | exact hR0 | exact Hp.le_trans hR0 (Hp.le_trans hR1 (Hp.le_trans hR3 hR4))) rfl
    case hp => rfl
    case hS => (repeat (first|exact zR _|(apply zP;focus (repeat (first|exact zH _|apply zT)))|apply zD|exact zA _ _))
   ·have hN : N ≤ l.length := by (try simp at hc27); omega
    refine cj_skip ?_
    refine hK4 _ _ _ ?_
    refine cj_seq (fun K9 hK9 => ?_)
    refine cj_region ?_
    refine rv0 rfl rfl rfl (y_build (cells := [_, _, _]) [(0, 1), (1, 1), (2, 1)] Try.underlying66 Try.zeroValue66 (fun _ => rfl) rfl rfl) ?_
    refine rj_buildSlice (sz := 3) (wn0 rfl) rfl Try.underlying35 Try.sizeOf66 Try.zeroValue66 rfl rfl rfl (by decide) (by decide) (fun b29 => ?_)
    refine rj_freeze (e := 66) (sz := 3) (n := 1) (xs := colC ⟨[97], 1, 0⟩) (by (repeat (first|exact zH _|apply zT));done) (fun R1 hR1 hfr1 hxl1 => ?_)
    have hc : FrX colE R1 awC (.slice (some ⟨b29, 0, none⟩) 1 1) := colFr1 hfr1
    replace hls := hls.mono hR1
    refine rj_alloc (wn0 rfl) rfl Try.zeroValue35 rfl (fun b5 => ?_)
    refine rj_store ⟨Try.isAgg35, Try.sizeOf35⟩ (wn0 rfl) rfl rfl (by (first | rfl | assumption | (apply cutV_one; assumption))) (by (repeat (first|exact zH _|apply zT));done) rfl rfl ?_
    refine rj_nil ?_
    refine hK9 _ _ _ ?_
    refine cj_env (eL 0 rfl (eL 1 rfl (eL 5 rfl eN))) ?_
    refine cj_seq (fun K10 hK10 => ?_)
    refine cj_region ?_
    refine rv0 rfl rfl rfl (y_assign rfl) ?_
    refine rj_add (A := slc 43 1 (.slice none 0 0) 0 ([] : List (List Value)).flatten) (slc_nil _ _) ?_
    refine rj_nil ?_
    refine hK10 _ _ _ ?_
    refine cj_seq (fun K11 hK11 => ?_)
    refine cj_seq (fun K12 hK12 => ?_)
    refine cj_region ?_
    refine rv0 rfl rfl rfl (y_move rfl) ?_
    first | refine rv0 rfl rfl rfl (y_len_sl Try.underlying43 rfl) ?_ | refine rv0 rfl rfl rfl (y_len_slc Try.underlying43 rfl (by (repeat (first|exact zH _|apply zT));done)) ?_
    refine rv0 rfl rfl rfl (y_move rfl) ?_
    refine rj_nil ?_
    refine hK12 _ _ _ ?_
    refine cj_block ?_
    refine cj_env (E' := (fun (x1 : Nat × Value × Hp × List (List Value)) => [(1, .int .u8 (N : Int)), (5, .pointer (some ⟨b5, 0, none⟩)), (6, x1.2.1), (30, .slice q l.length cap), (31, .int .i64 (l.length : Int)), (32, .int .i64 (x1.1 : Int))]) (0, .slice none 0 0, R1, [])) (eC rfl (eC rfl (eC rfl (eC rfl (eC rfl (eC rfl eN)))))) ?_
    refine cj_sub (M := (fun (x1 : Nat × Value × Hp × List (List Value)) => slc 43 1 x1.2.1 x1.2.2.2.length x1.2.2.2.flatten :: blk b5 [.slice (some ⟨b29, 0, none⟩) 1 1] 35 :: F) (0, .slice none 0 0, R1, [])) (by (repeat (first|exact zR _|(apply zP;focus (repeat (first|exact zH _|apply zT)))|apply zD|exact zA _ _))) ?_
    refine cj_loop (fun (x1 : Nat × Value × Hp × List (List Value)) => [(1, .int .u8 (N : Int)), (5, .pointer (some ⟨b5, 0, none⟩)), (6, x1.2.1), (30, .slice q l.length cap), (31, .int .i64 (l.length : Int)), (32, .int .i64 (x1.1 : Int))]) (fun (x1 : Nat × Value × Hp × List (List Value)) => x1.2.2.1) (fun (x1 : Nat × Value × Hp × List (List Value)) => slc 43 1 x1.2.1 x1.2.2.2.length x1.2.2.2.flatten :: blk b5 [.slice (some ⟨b29, 0, none⟩) 1 1] 35 :: F) (fun (x1 : Nat × Value × Hp × List (List Value)) => x1.1 ≤ l.length ∧ x1.2.1.oneCell' = true ∧ R1.le x1.2.2.1 ∧ Els rowE x1.2.2.1 (rowsG ((l.take x1.1).map gv)) x1.2.2.2) (fun (x1 : Nat × Value × Hp × List (List Value)) => l.length - x1.1) (0, .slice none 0 0, R1, []) (⟨by simp, rfl, Hp.le_refl _, by simpa [rowsG] using Els.nil⟩) ?_
    rintro ⟨i, vl, R3, css⟩ ⟨hi, hvl, hR3, hels⟩
    try dsimp only
    dsimp only at hi hvl hR3 hels
    refine cj_seq (fun K13 hK13 => ?_)
    refine cj_region ?_
    refine rv0 rfl rfl rfl (y_lss rfl rfl) ?_
    refine rj_nil ?_
    refine hK13 _ _ _ ?_
    refine cj_seq (fun K14 hK14 => ?_)
    refine cj_cond rfl (fun hc33 => ?_) (fun hc33 => ?_)
    ·try simp only [dT, dF, nT, nF, tF, fT] at hc33
     refine cj_skip ?_
     refine hK14 _ _ _ ?_
     refine cj_seq (fun K16 hK16 => ?_)
     refine cj_block ?_
     refine cj_seq (fun K17 hK17 => ?_)
     refine cj_region ?_
     have hi2 : i < l.length := by (try simp at hc33); omega
     obtain ⟨x, hx⟩ : ∃ r, l[i]? = some r := ⟨_, List.getElem?_eq_getElem hi2⟩
     obtain ⟨br, orr, cpr, csr, her, rfl, _, hcellr⟩ := (hls.mono hR3).at hx
     have hxi := hin x (List.mem_of_getElem? hx)
     have hcssl : css.length = i := by have := hels.1; simp [rowsG] at this; omega
     obtain ⟨rfl, rfl⟩ : q = some ⟨br, orr, none⟩ ∧ cap = cpr := by cases her; exact ⟨rfl, rfl⟩
     first | refine rv0 rfl rfl rfl (y_indexAddr Try.underlying43 Try.sizeOf26 rfl rfl (by (first | omega | (dsimp only; omega) | (simp; done) | (simp; omega)))) ?_ | refine rv0 rfl rfl rfl (y_index_slc Try.underlying43 Try.sizeOf26 rfl rfl (by (repeat (first|exact zH _|apply zT));done) (by (first | omega | (dsimp only; omega) | (simp; done) | (simp; omega)))) ?_
     refine rv0 rfl rfl rfl ((y_loads_ro ⟨Try.isAgg26, Try.sizeOf26⟩ (vs := valC x) rfl rfl (fun j u hj => hcellr j u hj))) ?_
     refine rj_alloc (wn0 rfl) rfl Try.zeroValue26 rfl (fun b8 => ?_)
     refine rj_stores_all (vs := valC x) ⟨Try.isAgg26, Try.sizeOf26⟩ rfl (wn0 rfl) rfl rfl (valE.one (R := R) (x := x) rfl) (by (repeat (first|exact zH _|apply zT));done) rfl ?_
     refine rj_nil ?_
     refine hK17 _ _ _ ?_
     refine cj_env (eL 1 rfl (eL 5 rfl (eL 6 rfl (eL 8 rfl (eL 30 rfl (eL 31 rfl (eL 32 rfl eN))))))) ?_
     refine cj_seq (fun K18 hK18 => ?_)
     have hJ12 : ∀ (z : Vl), z = oV (gv x) → EJ ⟨Try.prog, 123, σ⟩ K18 [(1, .int .u8 (N : Int)), (5, .pointer (some ⟨b5, 0, none⟩)), (6, vl), (8, .pointer (some ⟨b8, 0, none⟩)), (30, .slice (some ⟨br, orr, none⟩) l.length cap), (31, .int .i64 (l.length : Int)), (32, .int .i64 (i : Int))] R3 (blk b8 (valC z) 26 :: slc 43 1 vl css.length css.flatten :: blk b5 [.slice (some ⟨b29, 0, none⟩) 1 1] 35 :: F) := by
      rintro z hz
      try dsimp only
      refine hK18 _ _ _ ?_
      refine cj_region ?_
      refine rv0 rfl rfl rfl (y_move rfl) ?_
      refine rv0 rfl rfl rfl ((y_loads_all (vs := valC z) ⟨Try.isAgg26, Try.sizeOf26⟩ rfl rfl (by (repeat (first|exact zH _|apply zT));done))) ?_
      refine rj_buildSlice (sz := 3) (wn0 rfl) rfl Try.underlying43 Try.sizeOf26 Try.zeroValue26 rfl rfl rfl (by decide) (by decide) (fun b57 => ?_)
      refine rj_freeze (e := 26) (sz := 3) (n := 1) (xs := valC z) (by (repeat (first|exact zH _|apply zT));done) (fun R4 hR4 hfr4 hxl4 => ?_)
      have hfv4 := valFr1 hfr4
      rw [hz] at hfv4
      refine rj_buildSlice (sz := 1) (wn0 rfl) rfl Try.underlying45 Try.sizeOf43 Try.zeroValue43 rfl rfl rfl (by decide) (by decide) (fun b58 => ?_)
      refine rj_append (sz := 1) (by_ := 24) ⟨Try.underlying45, _, _, rfl, rfl, rfl, rfl, rfl⟩ (wn0 rfl) rfl rfl rfl (by (repeat (first|exact zH _|apply zT));done) (src_slc (xs := [.slice (some ⟨b57, 0, none⟩) 1 1]) Try.underlying45 (by (repeat (first|exact zH _|apply zT));done) (fun u hu => by simp at hu; subst hu; rfl)) rfl (by (first | omega | (dsimp only; omega) | (simp; done) | (simp; omega))) (by simp only [maxLen]; omega) (fun v59 ho59 hh59 => ?_)
      rw [flat_snoc, show css.length + 1 = (css ++ [[Value.slice (some ⟨b57, 0, none⟩) 1 1]]).length by simp]
      refine rv0 rfl rfl rfl (y_assign rfl) ?_
      refine rj_nil ?_
      refine hK16 _ _ _ ?_
      refine cj_env (eL 1 rfl (eL 5 rfl (eL 6 rfl (eL 30 rfl (eL 31 rfl (eL 32 rfl eN)))))) ?_
      refine cj_region ?_
      first | refine rv0 rfl rfl rfl (y_add64 rfl rfl (by (first | omega | (dsimp only; omega) | (simp; done) | (simp; omega)))) ?_ | refine rv0 rfl rfl rfl (y_add rfl rfl) ?_
      refine rv0 rfl rfl rfl (y_move rfl) ?_
      refine rj_nil ?_
      refine ej_on (q' := roundK _ _ _ _ _ _ _) rfl ?_
      refine ej_round ((i + 1, v59, R4, css ++ [[.slice (some ⟨b57, 0, none⟩) 1 1]])) (⟨by dsimp only; omega, by assumption, Hp.le_trans hR3 hR4, by dsimp only; rw [map_snoc hx]; unfold rowsG; rw [List.map_append]; exact Els.snoc (hels.mono hR4) ⟨_, rfl, hfv4⟩⟩) (by dsimp only; omega) (eC rfl (eC rfl (eC rfl (eC rfl (eC rfl (eC rfl eN)))))) rfl (by (repeat (first|exact zR _|(apply zP;focus (repeat (first|exact zH _|apply zT)))|apply zD|exact zA _ _)))
     refine cj_seq (fun K19 hK19 => ?_)
     refine cj_region ?_
     refine rv0 rfl rfl rfl (y_fieldAddr (k := 0) Try.underlying26 rfl (n := 1) (by decide) Try.sizeOf3 rfl) ?_
     refine rv0 rfl rfl rfl ((y_load ⟨Try.isAgg3, Try.sizeOf3⟩ rfl (by (repeat (first|exact zH _|apply zT));done) rfl)) ?_
     refine rv0 rfl rfl rfl (y_neq rfl rfl) ?_
     refine rv0 rfl rfl rfl (y_move rfl) ?_
     refine rj_part 39 rfl (fun hg39 => ?_) (fun hg39 => ?_)
     ·have f1 : ¬ x.kind = 1 := by simpa using hg39
      refine rj_skip (wn2 rfl rfl rfl rfl rfl) rfl rfl ?_
      refine rj_skip (wn2 rfl rfl rfl rfl rfl) rfl rfl ?_
      refine rj_skip (wn2 rfl rfl rfl rfl rfl) rfl rfl ?_
      refine rv0 rfl rfl rfl (y_pick_t rfl rfl) ?_
      refine rv0 rfl rfl rfl (y_move rfl) ?_
      refine rj_skip (wn2 rfl rfl rfl rfl rfl) rfl rfl ?_
      refine rj_skip (wn2 rfl rfl rfl rfl rfl) rfl rfl ?_
      refine rj_skip (wn2 rfl rfl rfl rfl rfl) rfl rfl ?_
      refine rv0 rfl rfl rfl (y_pick_t rfl rfl) ?_
      refine rv0 rfl rfl rfl (y_move rfl) ?_
      refine rj_skip (wn2 rfl rfl rfl rfl rfl) rfl rfl ?_
      refine rj_skip (wn2 rfl rfl rfl rfl rfl) rfl rfl ?_
      refine rj_skip (wn2 rfl rfl rfl rfl rfl) rfl rfl ?_
      refine rv0 rfl rfl rfl (y_pick_t rfl rfl) ?_
      refine rj_nil ?_
      refine hK19 _ _ _ ?_
      refine cj_env (eL 1 rfl (eL 5 rfl (eL 6 rfl (eL 8 rfl (eL 30 rfl (eL 31 rfl (eL 32 rfl (eL 53 rfl eN)))))))) ?_
      refine cj_cond_t rfl ?_
      refine cj_region ?_
      refine rv0 rfl rfl rfl (y_build (cells := [_, _, _]) [(0, 1), (1, 1), (2, 1)] Try.underlying26 Try.zeroValue26 (fun _ => rfl) rfl rfl) ?_
      refine rj_stores_all (vs := valC Vl.zero) ⟨Try.isAgg26, Try.sizeOf26⟩ rfl (wn0 rfl) rfl rfl (valE.one (R := R) (x := Vl.zero) rfl) (by (repeat (first|exact zH _|apply zT));done) rfl ?_
      refine rj_nil ?_
      refine ej_join hJ12 (Vl.zero) (by unfold gv; rw [if_neg (fun h => f1 h.1)]; rfl) (eC rfl (eC rfl (eC rfl (eC rfl (eC rfl (eC rfl (eC rfl eN))))))) rfl (by (repeat (first|exact zR _|(apply zP;focus (repeat (first|exact zH _|apply zT)))|apply zD|exact zA _ _)))
     ·have f1 : x.kind = 1 := by simpa using hg39
      refine rj_val (wn1 rfl rfl rfl rfl) rfl rfl (y_fieldAddr (k := 2) Try.underlying26 rfl (n := 1) (by decide) Try.sizeOf9 rfl) ?_
      refine rj_val (wn1 rfl rfl rfl rfl) rfl rfl ((y_load ⟨Try.isAgg9, Try.sizeOf9⟩ rfl (by (repeat (first|exact zH _|apply zT));done) rfl)) ?_
      refine rj_val (wn1 rfl rfl rfl rfl) rfl rfl (y_sneq rfl rfl) ?_
      refine rv0 rfl rfl rfl (y_pick_f rfl rfl) ?_
      refine rv0 rfl rfl rfl (y_move rfl) ?_
      refine rj_part 44 rfl (fun hg44 => ?_) (fun hg44 => ?_)
      ·have f2 : ¬ x.s = [] := by simpa using hg44
       refine rj_skip (wn2 rfl rfl rfl rfl rfl) rfl rfl ?_
       refine rj_skip (wn2 rfl rfl rfl rfl rfl) rfl rfl ?_
       refine rj_skip (wn2 rfl rfl rfl rfl rfl) rfl rfl ?_
       refine rv0 rfl rfl rfl (y_pick_t rfl rfl) ?_
       refine rv0 rfl rfl rfl (y_move rfl) ?_
       refine rj_skip (wn2 rfl rfl rfl rfl rfl) rfl rfl ?_
       refine rj_skip (wn2 rfl rfl rfl rfl rfl) rfl rfl ?_
       refine rj_skip (wn2 rfl rfl rfl rfl rfl) rfl rfl ?_
       refine rv0 rfl rfl rfl (y_pick_t rfl rfl) ?_
       refine rj_nil ?_
       refine hK19 _ _ _ ?_
       refine cj_env (eL 1 rfl (eL 5 rfl (eL 6 rfl (eL 8 rfl (eL 30 rfl (eL 31 rfl (eL 32 rfl (eL 53 rfl eN)))))))) ?_
       refine cj_cond_t rfl ?_
       refine cj_region ?_
       refine rv0 rfl rfl rfl (y_build (cells := [_, _, _]) [(0, 1), (1, 1), (2, 1)] Try.underlying26 Try.zeroValue26 (fun _ => rfl) rfl rfl) ?_
       refine rj_stores_all (vs := valC Vl.zero) ⟨Try.isAgg26, Try.sizeOf26⟩ rfl (wn0 rfl) rfl rfl (valE.one (R := R) (x := Vl.zero) rfl) (by (repeat (first|exact zH _|apply zT));done) rfl ?_
       refine rj_nil ?_
       refine ej_join hJ12 (Vl.zero) (by unfold gv; rw [if_neg (fun h => f2 h.2.1)]; rfl) (eC rfl (eC rfl (eC rfl (eC rfl (eC rfl (eC rfl (eC rfl eN))))))) rfl (by (repeat (first|exact zR _|(apply zP;focus (repeat (first|exact zH _|apply zT)))|apply zD|exact zA _ _)))
      ·have f2 : x.s = [] := by simpa using hg44
       refine rj_val (wn1 rfl rfl rfl rfl) rfl rfl (y_fieldAddr (k := 1) Try.underlying26 rfl (n := 1) (by decide) Try.sizeOf2 rfl) ?_
       refine rj_val (wn1 rfl rfl rfl rfl) rfl rfl ((y_load ⟨Try.isAgg2, Try.sizeOf2⟩ rfl (by (repeat (first|exact zH _|apply zT));done) rfl)) ?_
       refine rj_val (wn1 rfl rfl rfl rfl) rfl rfl (y_gtr rfl rfl) ?_
       refine rv0 rfl rfl rfl (y_pick_f rfl rfl) ?_
       refine rv0 rfl rfl rfl (y_move rfl) ?_
       refine rj_part 49 rfl (fun hg49 => ?_) (fun hg49 => ?_)
       ·have f3 : ¬ x.n ≤ 1099511627776 := by simpa using hg49
        refine rj_skip (wn2 rfl rfl rfl rfl rfl) rfl rfl ?_
        refine rj_skip (wn2 rfl rfl rfl rfl rfl) rfl rfl ?_
        refine rj_skip (wn2 rfl rfl rfl rfl rfl) rfl rfl ?_
        refine rv0 rfl rfl rfl (y_pick_t rfl rfl) ?_
        refine rj_nil ?_
        refine hK19 _ _ _ ?_
        refine cj_env (eL 1 rfl (eL 5 rfl (eL 6 rfl (eL 8 rfl (eL 30 rfl (eL 31 rfl (eL 32 rfl (eL 53 rfl eN)))))))) ?_
        refine cj_cond_t rfl ?_
        refine cj_region ?_
        refine rv0 rfl rfl rfl (y_build (cells := [_, _, _]) [(0, 1), (1, 1), (2, 1)] Try.underlying26 Try.zeroValue26 (fun _ => rfl) rfl rfl) ?_
        refine rj_stores_all (vs := valC Vl.zero) ⟨Try.isAgg26, Try.sizeOf26⟩ rfl (wn0 rfl) rfl rfl (valE.one (R := R) (x := Vl.zero) rfl) (by (repeat (first|exact zH _|apply zT));done) rfl ?_
        refine rj_nil ?_
        refine ej_join hJ12 (Vl.zero) (by unfold gv; rw [if_neg (fun h => f3 h.2.2.1)]; rfl) (eC rfl (eC rfl (eC rfl (eC rfl (eC rfl (eC rfl (eC rfl eN))))))) rfl (by (repeat (first|exact zR _|(apply zP;focus (repeat (first|exact zH _|apply zT)))|apply zD|exact zA _ _)))
       ·have f3 : x.n ≤ 1099511627776 := by simpa using hg49
        refine rj_val (wn1 rfl rfl rfl rfl) rfl rfl (y_fieldAddr (k := 1) Try.underlying26 rfl (n := 1) (by decide) Try.sizeOf2 rfl) ?_
        refine rj_val (wn1 rfl rfl rfl rfl) rfl rfl ((y_load ⟨Try.isAgg2, Try.sizeOf2⟩ rfl (by (repeat (first|exact zH _|apply zT));done) rfl)) ?_
        refine rj_val (wn1 rfl rfl rfl rfl) rfl rfl (y_lss rfl rfl) ?_
        refine rv0 rfl rfl rfl (y_pick_f rfl rfl) ?_
        refine rj_nil ?_
        refine hK19 _ _ _ ?_
        refine cj_env (eL 1 rfl (eL 5 rfl (eL 6 rfl (eL 8 rfl (eL 30 rfl (eL 31 rfl (eL 32 rfl (eL 53 rfl eN)))))))) ?_
        refine cj_cond rfl (fun hc53 => ?_) (fun hc53 => ?_)
        ·have f4 : ¬ -1099511627776 ≤ x.n := by simpa using hc53
         refine cj_region ?_
         refine rv0 rfl rfl rfl (y_build (cells := [_, _, _]) [(0, 1), (1, 1), (2, 1)] Try.underlying26 Try.zeroValue26 (fun _ => rfl) rfl rfl) ?_
         refine rj_stores_all (vs := valC Vl.zero) ⟨Try.isAgg26, Try.sizeOf26⟩ rfl (wn0 rfl) rfl rfl (valE.one (R := R) (x := Vl.zero) rfl) (by (repeat (first|exact zH _|apply zT));done) rfl ?_
         refine rj_nil ?_
         refine ej_join hJ12 (Vl.zero) (by unfold gv; rw [if_neg (fun h => f4 h.2.2.2)]; rfl) (eC rfl (eC rfl (eC rfl (eC rfl (eC rfl (eC rfl (eC rfl eN))))))) rfl (by (repeat (first|exact zR _|(apply zP;focus (repeat (first|exact zH _|apply zT)))|apply zD|exact zA _ _)))
        ·have f4 : -1099511627776 ≤ x.n := by simpa using hc53
         refine cj_skip ?_
         refine ej_join hJ12 (x) (by unfold gv; rw [if_pos ⟨f1, f2, f3, f4⟩]; obtain ⟨xk, xn, xs⟩ := x; simp only at f1 f2; subst f1 f2; rfl) (eC rfl (eC rfl (eC rfl (eC rfl (eC rfl (eC rfl (eC rfl eN))))))) rfl (by (repeat (first|exact zR _|(apply zP;focus (repeat (first|exact zH _|apply zT)))|apply zD|exact zA _ _)))
    ·try simp only [dT, dF, nT, nF, tF, fT] at hc33
     refine cj_exit ?_
     refine hK11 _ _ _ ?_
     refine cj_env (eL 1 rfl (eL 5 rfl (eL 6 rfl eN))) ?_
     refine cj_seq (fun K21 hK21 => ?_)
     refine cj_region ?_
     obtain rfl : i = l.length := by (try simp at hc33); omega
     rw [List.take_length] at hels
     have hcl12 : css.length = l.length := by have := hels.1; simpa [rowsG] using this
     obtain ⟨g, hg⟩ : ∃ g, g = l.map gv := ⟨_, rfl⟩
     rw [← hg] at hels
     have hgl : g.length = l.length := by rw [hg]; simp
     have hgb : ∀ x ∈ g, bdO 1 x := fun x hx => by rw [hg] at hx; obtain ⟨y, _, rfl⟩ := List.mem_map.1 hx; exact gv_bd y
     refine rj_freeze (e := 43) (sz := 1) (n := css.length) (xs := css.flatten) (by (repeat (first|exact zH _|apply zT));done) (fun R4 hR4 hfr4 hxl4 => ?_)
     have hall : FrX rowE R4 (rowsG g) vl := FrozenS.frx (by rw [hels.1] at hfr4; exact hfr4) (hels.mono hR4)
     obtain ⟨qa, capa, rfl, hcapa, hcma⟩ := hall.shape
     have hrl : (rowsG g).length = l.length := by simp [rowsG, hgl]
     have hA := hall.sub (a := 0) (b := N) (by omega) (by omega)
     have hB := hall.sub (a := N) (b := (rowsG g).length) (by omega) (by omega)
     have eA : ((rowsG g).drop 0).take (N - 0) = rowsG (g.take N) := by simp [rowsG, List.map_take]
     have eB : ((rowsG g).drop N).take ((rowsG g).length - N) = rowsG (g.drop N) := by rw [List.take_of_length_le (by simp)]; simp [rowsG, List.map_drop]
     rw [eA] at hA
     rw [eB] at hB
     have hc4 := (hc.mono hR3).mono hR4
     have hgs : g = g.take N ++ g.drop N := by simp
     have hb2 : ∀ x ∈ g.take N ++ g.drop N, bdO 1 x := by rw [← hgs]; exact hgb
     have hl2 : (g.take N ++ g.drop N).length ≤ 12 := by rw [← hgs]; omega
     have iA := rowsG_in (g.take N) (fun x hx => hgb x (List.mem_of_mem_take hx))
     have iB := rowsG_in (g.drop N) (fun x hx => hgb x (List.mem_of_mem_drop hx))
     have iC := rowsG_in g hgb
     refine rv0 rfl rfl rfl (y_makeFunc rfl rfl) ?_
     refine rv0 rfl rfl rfl (y_assign rfl) ?_
     refine rj_nil ?_
     refine hK21 _ _ _ ?_
     refine cj_seq (fun K22 hK22 => ?_)
     refine cj_seq (fun K23 hK23 => ?_)
     refine cj_region ?_
     refine rj_buildSlice (sz := 1) (wn0 rfl) rfl Try.underlying68 Try.sizeOf9 Try.zeroValue9 rfl rfl rfl (by decide) (by decide) (fun b62 => ?_)
     first | refine rv0 rfl rfl rfl (y_len_sl Try.underlying68 rfl) ?_ | refine rv0 rfl rfl rfl (y_len_slc Try.underlying68 rfl (by (repeat (first|exact zH _|apply zT));done)) ?_
     refine rv0 rfl rfl rfl (y_move rfl) ?_
     refine rj_nil ?_
     refine hK23 _ _ _ ?_
     refine cj_block ?_
     refine cj_env (E' := (fun (i : Nat) => [(1, .int .u8 (N : Int)), (6, .slice qa (rowsG g).length capa), (9, .func (.func 32) ⟨[]⟩ ⟨[.pointer (some ⟨b5, 0, none⟩)]⟩), (62, .slice (some ⟨b62, 0, none⟩) 4 4), (63, .int .i64 4), (64, .int .i64 (i : Int))]) 0) (eC rfl (eC rfl (eC rfl (eC rfl (eC rfl (eC rfl eN)))))) ?_
     refine cj_sub (M := (fun (i : Nat) => slc 9 1 (.slice (some ⟨b62, 0, none⟩) 4 4) 4 ([[99, 111, 117, 110, 116], [115, 117, 109], [109, 105, 110], [109, 97, 120]].map fun s => Value.string (str s)) :: blk b5 [.slice (some ⟨b29, 0, none⟩) 1 1] 35 :: F) 0) (by (repeat (first|exact zR _|(apply zP;focus (repeat (first|exact zH _|apply zT)))|apply zD|exact zA _ _))) ?_
     refine cj_loop (fun (i : Nat) => [(1, .int .u8 (N : Int)), (6, .slice qa (rowsG g).length capa), (9, .func (.func 32) ⟨[]⟩ ⟨[.pointer (some ⟨b5, 0, none⟩)]⟩), (62, .slice (some ⟨b62, 0, none⟩) 4 4), (63, .int .i64 4), (64, .int .i64 (i : Int))]) (fun (i : Nat) => R4) (fun (i : Nat) => slc 9 1 (.slice (some ⟨b62, 0, none⟩) 4 4) 4 ([[99, 111, 117, 110, 116], [115, 117, 109], [109, 105, 110], [109, 97, 120]].map fun s => Value.string (str s)) :: blk b5 [.slice (some ⟨b29, 0, none⟩) 1 1] 35 :: F) (fun (i : Nat) => i ≤ 4) (fun (i : Nat) => 4 - i) 0 (by simp) ?_
     rintro i hi4
     try dsimp only
     refine cj_seq (fun K24 hK24 => ?_)
     refine cj_region ?_
     refine rv0 rfl rfl rfl (y_lss rfl rfl) ?_
     refine rj_nil ?_
     refine hK24 _ _ _ ?_
     refine cj_seq (fun K25 hK25 => ?_)
     refine cj_cond rfl (fun hc65 => ?_) (fun hc65 => ?_)
     ·try simp only [dT, dF, nT, nF, tF, fT] at hc65
      refine cj_skip ?_
      refine hK25 _ _ _ ?_
      refine cj_seq (fun K27 hK27 => ?_)
      refine cj_block ?_
      refine cj_seq (fun K28 hK28 => ?_)
      refine cj_region ?_
      have hi5 : i < 4 := by (try simp at hc65); omega
      obtain ⟨op, hop⟩ : ∃ r, ops4[i]? = some r := ⟨_, List.getElem?_eq_getElem (by simpa [ops4] using hi5)⟩
      obtain ⟨hgo, hcs⟩ := ops4_cases hop
      have hw1 := want_1 hcs hb2 hl2
      have hw2 := want_2 hcs hb2 hl2
      have hw3 := want_3 hcs hb2 hl2
      rw [← hgs] at hw1 hw2 hw3
      refine rv0 rfl rfl rfl ((y_index_slc Try.underlying68 Try.sizeOf9 rfl rfl (by (repeat (first|exact zH _|apply zT));done) (by omega))) ?_
      refine rv0 rfl rfl rfl ((y_load_slc ⟨Try.isAgg9, Try.sizeOf9⟩ rfl (by (repeat (first|exact zH _|apply zT));done) (strs4 hop))) ?_
      refine rv0 rfl rfl rfl (y_assign rfl) ?_
      refine rj_nil ?_
      refine hK28 _ _ _ ?_
      refine cj_env (eL 1 rfl (eL 6 rfl (eL 9 rfl (eL 11 rfl (eL 62 rfl (eL 63 rfl (eL 64 rfl eN))))))) ?_
      refine cj_seq (fun K29 hK29 => ?_)
      have hJ19 : ∀ (x : Nat × Nat × Nat), True → EJ ⟨Try.prog, 123, σ⟩ K29 [(1, .int .u8 (N : Int)), (6, .slice qa (rowsG g).length capa), (9, .func (.func 32) ⟨[]⟩ ⟨[.pointer (some ⟨b5, 0, none⟩)]⟩), (11, .string (str op.str)), (12, .pointer (some ⟨x.1, 0, none⟩)), (13, .pointer (some ⟨x.2.1, 0, none⟩)), (14, .pointer (some ⟨x.2.2, 0, none⟩)), (62, .slice (some ⟨b62, 0, none⟩) 4 4), (63, .int .i64 4), (64, .int .i64 (i : Int))] R4 (blk x.1 (valC (gaV op (rowsG (g.take N)))) 26 :: blk x.2.1 (valC (gaV op (rowsG (g.drop N)))) 26 :: blk x.2.2 (valC (gaV op (rowsG g))) 26 :: slc 9 1 (.slice (some ⟨b62, 0, none⟩) 4 4) 4 ([[99, 111, 117, 110, 116], [115, 117, 109], [109, 105, 110], [109, 97, 120]].map fun s => Value.string (str s)) :: blk b5 [.slice (some ⟨b29, 0, none⟩) 1 1] 35 :: F) := by
       rintro ⟨b12, b13, b14⟩ _
       try dsimp only
       refine hK29 _ _ _ ?_
       refine cj_seq (fun K30 hK30 => ?_)
       refine cj_region ?_
       refine rv0 rfl rfl rfl (y_build (cells := [_, _, _]) [(0, 1), (1, 1), (2, 1)] Try.underlying26 Try.zeroValue26 (fun _ => rfl) rfl rfl) ?_
       refine rj_alloc (wn0 rfl) rfl Try.zeroValue26 rfl (fun b15 => ?_)
       refine rj_stores_all (vs := valC ⟨1, 0, []⟩) ⟨Try.isAgg26, Try.sizeOf26⟩ rfl (wn0 rfl) rfl rfl (valE.one (R := R) (x := ⟨1, 0, []⟩) rfl) (by (repeat (first|exact zH _|apply zT));done) rfl ?_
       refine rj_nil ?_
       refine hK30 _ _ _ ?_
       refine cj_seq (fun K31 hK31 => ?_)
       have hJ29 : ∀ (z : Vl), gaV op (rowsG g) = z → EJ ⟨Try.prog, 123, σ⟩ K31 [(1, .int .u8 (N : Int)), (6, .slice qa (rowsG g).length capa), (9, .func (.func 32) ⟨[]⟩ ⟨[.pointer (some ⟨b5, 0, none⟩)]⟩), (14, .pointer (some ⟨b14, 0, none⟩)), (15, .pointer (some ⟨b15, 0, none⟩)), (62, .slice (some ⟨b62, 0, none⟩) 4 4), (63, .int .i64 4), (64, .int .i64 (i : Int))] R4 (blk b15 (valC z) 26 :: blk b14 (valC (gaV op (rowsG g))) 26 :: slc 9 1 (.slice (some ⟨b62, 0, none⟩) 4 4) 4 ([[99, 111, 117, 110, 116], [115, 117, 109], [109, 105, 110], [109, 97, 120]].map fun s => Value.string (str s)) :: blk b5 [.slice (some ⟨b29, 0, none⟩) 1 1] 35 :: F) := by
        rintro z hz
        try dsimp only
        refine hK31 _ _ _ ?_
        refine cj_seq (fun K32 hK32 => ?_)
        refine cj_region ?_
        subst hz
        refine rv0 rfl rfl rfl ((y_loads_all (vs := valC (gaV op (rowsG g))) ⟨Try.isAgg26, Try.sizeOf26⟩ rfl rfl (by (repeat (first|exact zH _|apply zT));done))) ?_
        refine rv0 rfl rfl rfl ((y_loads_all (vs := valC (gaV op (rowsG g))) ⟨Try.isAgg26, Try.sizeOf26⟩ rfl rfl (by (repeat (first|exact zH _|apply zT));done))) ?_
        refine rv0 rfl rfl rfl ((Yld.to (u := .bool false) (y_stne (by kernel_rfl) rfl rfl (val_ne _ _)) (by simp))) ?_
        refine rj_nil ?_
        refine hK32 _ _ _ ?_
        refine cj_env (eL 1 rfl (eL 6 rfl (eL 9 rfl (eL 62 rfl (eL 63 rfl (eL 64 rfl (eL 121 rfl eN))))))) ?_
        refine cj_cond_f rfl ?_
        refine cj_skip ?_
        refine hK27 _ _ _ ?_
        refine cj_region ?_
        first | refine rv0 rfl rfl rfl (y_add64 rfl rfl (by (first | omega | (dsimp only; omega) | (simp; done) | (simp; omega)))) ?_ | refine rv0 rfl rfl rfl (y_add rfl rfl) ?_
        refine rv0 rfl rfl rfl (y_move rfl) ?_
        refine rj_nil ?_
        refine ej_on (q' := roundK _ _ _ _ _ _ _) rfl ?_
        refine ej_round (i + 1) (by omega) (by omega) (eC rfl (eC rfl (eC rfl (eC rfl (eC rfl (eC rfl eN)))))) rfl (by (repeat (first|exact zR _|(apply zP;focus (repeat (first|exact zH _|apply zT)))|apply zD|exact zA _ _)))
       refine cj_block ?_
       refine cj_seq (fun K33 hK33 => ?_)
       refine cj_region ?_
       refine rv0 rfl rfl rfl (y_fieldAddr (k := 0) Try.underlying26 rfl (n := 1) (by decide) Try.sizeOf3 rfl) ?_
       refine rv0 rfl rfl rfl ((y_load ⟨Try.isAgg3, Try.sizeOf3⟩ rfl (by (repeat (first|exact zH _|apply zT));done) rfl)) ?_
       refine rv0 rfl rfl rfl (y_eql rfl rfl) ?_
       refine rv0 rfl rfl rfl (y_assign rfl) ?_
       refine rj_nil ?_
       refine hK33 _ _ _ ?_
       refine cj_env (eL 1 rfl (eL 6 rfl (eL 9 rfl (eL 11 rfl (eL 12 rfl (eL 13 rfl (eL 14 rfl (eL 15 rfl (eL 62 rfl (eL 63 rfl (eL 64 rfl (eL 91 rfl eN)))))))))))) ?_
       refine cj_cond rfl (fun hc91 => ?_) (fun hc91 => ?_)
       ·have g1 : (gaV op (rowsG (g.take N))).kind = 0 := by simpa using hc91
        refine cj_region ?_
        refine rv0 rfl rfl rfl ((y_loads_all (vs := valC (gaV op (rowsG (g.drop N)))) ⟨Try.isAgg26, Try.sizeOf26⟩ rfl rfl (by (repeat (first|exact zH _|apply zT));done))) ?_
        refine rj_stores_all (vs := valC (gaV op (rowsG (g.drop N)))) ⟨Try.isAgg26, Try.sizeOf26⟩ rfl (wn0 rfl) rfl rfl (valE.one (R := R) (x := gaV op (rowsG (g.drop N))) rfl) (by (repeat (first|exact zH _|apply zT));done) rfl ?_
        refine rj_nil ?_
        refine ej_join hJ29 (gaV op (rowsG (g.drop N))) (hw1 g1) (eC rfl (eC rfl (eC rfl (eC rfl (eC rfl (eC rfl (eC rfl (eC rfl eN)))))))) rfl (by (repeat (first|exact zR _|(apply zP;focus (repeat (first|exact zH _|apply zT)))|apply zD|exact zA _ _)))
       ·have g1 : ¬ (gaV op (rowsG (g.take N))).kind = 0 := by simpa using hc91
        refine cj_seq (fun K35 hK35 => ?_)
        refine cj_region ?_
        refine rv0 rfl rfl rfl (y_fieldAddr (k := 0) Try.underlying26 rfl (n := 1) (by decide) Try.sizeOf3 rfl) ?_
        refine rv0 rfl rfl rfl ((y_load ⟨Try.isAgg3, Try.sizeOf3⟩ rfl (by (repeat (first|exact zH _|apply zT));done) rfl)) ?_
        refine rv0 rfl rfl rfl (y_eql rfl rfl) ?_
        refine rv0 rfl rfl rfl (y_assign rfl) ?_
        refine rj_nil ?_
        refine hK35 _ _ _ ?_
        refine cj_env (eL 1 rfl (eL 6 rfl (eL 9 rfl (eL 11 rfl (eL 12 rfl (eL 13 rfl (eL 14 rfl (eL 15 rfl (eL 62 rfl (eL 63 rfl (eL 64 rfl (eL 96 rfl eN)))))))))))) ?_
        refine cj_cond rfl (fun hc96 => ?_) (fun hc96 => ?_)
        ·have g2 : (gaV op (rowsG (g.drop N))).kind = 0 := by simpa using hc96
         refine cj_region ?_
         refine rv0 rfl rfl rfl ((y_loads_all (vs := valC (gaV op (rowsG (g.take N)))) ⟨Try.isAgg26, Try.sizeOf26⟩ rfl rfl (by (repeat (first|exact zH _|apply zT));done))) ?_
         refine rj_stores_all (vs := valC (gaV op (rowsG (g.take N)))) ⟨Try.isAgg26, Try.sizeOf26⟩ rfl (wn0 rfl) rfl rfl (valE.one (R := R) (x := gaV op (rowsG (g.take N))) rfl) (by (repeat (first|exact zH _|apply zT));done) rfl ?_
         refine rj_nil ?_
         refine ej_join hJ29 (gaV op (rowsG (g.take N))) (hw2 g2) (eC rfl (eC rfl (eC rfl (eC rfl (eC rfl (eC rfl (eC rfl (eC rfl eN)))))))) rfl (by (repeat (first|exact zR _|(apply zP;focus (repeat (first|exact zH _|apply zT)))|apply zD|exact zA _ _)))
        ·have g2 : ¬ (gaV op (rowsG (g.drop N))).kind = 0 := by simpa using hc96
         refine cj_seq (fun K37 hK37 => ?_)
         refine cj_region ?_
         refine rv0 rfl rfl rfl (y_move rfl) ?_
         refine rv0 rfl rfl rfl (y_seql rfl rfl) ?_
         refine rv0 rfl rfl rfl (y_assign rfl) ?_
         refine rj_nil ?_
         refine hK37 _ _ _ ?_
         refine cj_env (eL 1 rfl (eL 6 rfl (eL 9 rfl (eL 11 rfl (eL 12 rfl (eL 13 rfl (eL 14 rfl (eL 15 rfl (eL 62 rfl (eL 63 rfl (eL 64 rfl (eL 101 rfl eN)))))))))))) ?_
         refine cj_cond rfl (fun hc101 => ?_) (fun hc101 => ?_)
         ·have g3 : op = .min := Op.is (op := op) hc101 rfl
          refine cj_region ?_
          refine rv0 rfl rfl rfl (y_fieldAddr (k := 1) Try.underlying26 rfl (n := 1) (by decide) Try.sizeOf2 rfl) ?_
          refine rv0 rfl rfl rfl ((y_load ⟨Try.isAgg2, Try.sizeOf2⟩ rfl (by (repeat (first|exact zH _|apply zT));done) rfl)) ?_
          refine rv0 rfl rfl rfl (y_fieldAddr (k := 1) Try.underlying26 rfl (n := 1) (by decide) Try.sizeOf2 rfl) ?_
          refine rv0 rfl rfl rfl ((y_load ⟨Try.isAgg2, Try.sizeOf2⟩ rfl (by (repeat (first|exact zH _|apply zT));done) rfl)) ?_
          refine rv0 rfl rfl rfl (y_min rfl rfl) ?_
          refine rv0 rfl rfl rfl (y_fieldAddr (k := 1) Try.underlying26 rfl (n := 1) (by decide) Try.sizeOf2 rfl) ?_
          refine rj_store ⟨Try.isAgg2, Try.sizeOf2⟩ (wn0 rfl) rfl rfl (by (first | rfl | assumption | (apply cutV_one; assumption))) (by (repeat (first|exact zH _|apply zT));done) rfl rfl ?_
          refine rj_nil ?_
          refine ej_join hJ29 (⟨1, min (gaV op (rowsG (g.take N))).n (gaV op (rowsG (g.drop N))).n, []⟩) (by rw [hw3 g1 g2, if_pos g3]) (eC rfl (eC rfl (eC rfl (eC rfl (eC rfl (eC rfl (eC rfl (eC rfl eN)))))))) rfl (by (repeat (first|exact zR _|(apply zP;focus (repeat (first|exact zH _|apply zT)))|apply zD|exact zA _ _)))
         ·have g3 : ¬ op = .min := by rintro rfl; simp [Op.str] at hc101
          refine cj_seq (fun K39 hK39 => ?_)
          refine cj_region ?_
          refine rv0 rfl rfl rfl (y_move rfl) ?_
          refine rv0 rfl rfl rfl (y_seql rfl rfl) ?_
          refine rv0 rfl rfl rfl (y_assign rfl) ?_
          refine rj_nil ?_
          refine hK39 _ _ _ ?_
          refine cj_env (eL 1 rfl (eL 6 rfl (eL 9 rfl (eL 12 rfl (eL 13 rfl (eL 14 rfl (eL 15 rfl (eL 62 rfl (eL 63 rfl (eL 64 rfl (eL 110 rfl eN))))))))))) ?_
          refine cj_cond rfl (fun hc110 => ?_) (fun hc110 => ?_)
          ·have g4 : op = .max := Op.is (op := op) hc110 rfl
           refine cj_region ?_
           refine rv0 rfl rfl rfl (y_fieldAddr (k := 1) Try.underlying26 rfl (n := 1) (by decide) Try.sizeOf2 rfl) ?_
           refine rv0 rfl rfl rfl ((y_load ⟨Try.isAgg2, Try.sizeOf2⟩ rfl (by (repeat (first|exact zH _|apply zT));done) rfl)) ?_
           refine rv0 rfl rfl rfl (y_fieldAddr (k := 1) Try.underlying26 rfl (n := 1) (by decide) Try.sizeOf2 rfl) ?_
           refine rv0 rfl rfl rfl ((y_load ⟨Try.isAgg2, Try.sizeOf2⟩ rfl (by (repeat (first|exact zH _|apply zT));done) rfl)) ?_
           refine rv0 rfl rfl rfl (y_max rfl rfl) ?_
           refine rv0 rfl rfl rfl (y_fieldAddr (k := 1) Try.underlying26 rfl (n := 1) (by decide) Try.sizeOf2 rfl) ?_
           refine rj_store ⟨Try.isAgg2, Try.sizeOf2⟩ (wn0 rfl) rfl rfl (by (first | rfl | assumption | (apply cutV_one; assumption))) (by (repeat (first|exact zH _|apply zT));done) rfl rfl ?_
           refine rj_nil ?_
           refine ej_join hJ29 (⟨1, max (gaV op (rowsG (g.take N))).n (gaV op (rowsG (g.drop N))).n, []⟩) (by rw [hw3 g1 g2, if_neg g3, if_pos g4]) (eC rfl (eC rfl (eC rfl (eC rfl (eC rfl (eC rfl (eC rfl (eC rfl eN)))))))) rfl (by (repeat (first|exact zR _|(apply zP;focus (repeat (first|exact zH _|apply zT)))|apply zD|exact zA _ _)))
          ·have g4 : ¬ op = .max := by rintro rfl; simp [Op.str] at hc110
           refine cj_region ?_
           refine rv0 rfl rfl rfl (y_fieldAddr (k := 1) Try.underlying26 rfl (n := 1) (by decide) Try.sizeOf2 rfl) ?_
           refine rv0 rfl rfl rfl ((y_load ⟨Try.isAgg2, Try.sizeOf2⟩ rfl (by (repeat (first|exact zH _|apply zT));done) rfl)) ?_
           refine rv0 rfl rfl rfl (y_fieldAddr (k := 1) Try.underlying26 rfl (n := 1) (by decide) Try.sizeOf2 rfl) ?_
           refine rv0 rfl rfl rfl ((y_load ⟨Try.isAgg2, Try.sizeOf2⟩ rfl (by (repeat (first|exact zH _|apply zT));done) rfl)) ?_
           refine rv0 rfl rfl rfl ((y_add rfl rfl)) ?_
           refine rv0 rfl rfl rfl (y_fieldAddr (k := 1) Try.underlying26 rfl (n := 1) (by decide) Try.sizeOf2 rfl) ?_
           refine rj_store ⟨Try.isAgg2, Try.sizeOf2⟩ (wn0 rfl) rfl rfl (by (first | rfl | assumption | (apply cutV_one; assumption))) (by (repeat (first|exact zH _|apply zT));done) rfl rfl ?_
           refine rj_nil ?_
           refine ej_join hJ29 (⟨1, IntKind.i64.wrap ((gaV op (rowsG (g.take N))).n + (gaV op (rowsG (g.drop N))).n), []⟩) (by rw [hw3 g1 g2, if_neg g3, if_neg g4]) (eC rfl (eC rfl (eC rfl (eC rfl (eC rfl (eC rfl (eC rfl (eC rfl eN)))))))) rfl (by (repeat (first|exact zR _|(apply zP;focus (repeat (first|exact zH _|apply zT)))|apply zD|exact zA _ _)))
      refine cj_mixs (L := [blk b5 [.slice (some ⟨b29, 0, none⟩) 1 1] 35]) [0, 1, 2, 3, 4, 5, 6, 7, 8, 9, 10, 11, 12, 13, 14, 15] [16, 17, 18] [19, 20, 21] _ noX_ok (by (repeat (first|exact zR _|(apply zP;focus (repeat (first|exact zH _|apply zT)))|apply zD|exact zA _ _))) (by kernel_rfl) (by kernel_rfl) (by kernel_rfl) rfl ?_
      refine fj_val rfl rfl rfl (wn0 rfl) (fun R1 hR1 G => (y_move rfl)) ?_
      refine fj_val rfl rfl rfl (wn0 rfl) (fun R1 hR1 G => (y_move rfl)) ?_
      refine fj_val rfl rfl rfl (wn0 rfl) (fun R1 hR1 G => (y_move rfl)) ?_
      refine fj_val rfl rfl rfl (wn0 rfl) (fun R1 hR1 G => (y_move rfl)) ?_
      refine fj_val rfl rfl rfl (wn0 rfl) (fun R1 hR1 G => (y_slice_sl (l := 0) (h := N) Try.underlying45 Try.sizeOf43 rfl rfl ⟨.u8, rfl⟩ (by omega))) ?_
      refine fj_val rfl rfl rfl (wn0 rfl) (fun R1 hR1 G => (y_callv rfl Try.call32 rfl (of_q2 op hgo (rowsG (g.take N)) _ _ b5 (hA.mono hR1) iA (hc4.mono hR1)) (by (repeat (first|exact zN _|(apply zS;focus (repeat (first|exact zH _|apply zT)))))))) ?_
      refine fj_val rfl rfl rfl (wn0 rfl) (fun R1 hR1 G => (y_move rfl)) ?_
      refine fj_val rfl rfl rfl (wn0 rfl) (fun R1 hR1 G => (y_move rfl)) ?_
      refine fj_val rfl rfl rfl (wn0 rfl) (fun R1 hR1 G => (y_move rfl)) ?_
      refine fj_val rfl rfl rfl (wn0 rfl) (fun R1 hR1 G => (y_move rfl)) ?_
      refine fj_val rfl rfl rfl (wn0 rfl) (fun R1 hR1 G => (y_slice_sl (l := N) (h := (rowsG g).length) Try.underlying45 Try.sizeOf43 rfl ⟨.u8, rfl⟩ rfl (by omega))) ?_
      refine fj_val rfl rfl rfl (wn0 rfl) (fun R1 hR1 G => (y_callv rfl Try.call32 rfl (of_q2 op hgo (rowsG (g.drop N)) _ _ b5 (hB.mono hR1) iB (hc4.mono hR1)) (by (repeat (first|exact zN _|(apply zS;focus (repeat (first|exact zH _|apply zT)))))))) ?_
      refine fj_val rfl rfl rfl (wn0 rfl) (fun R1 hR1 G => (y_move rfl)) ?_
      refine fj_val rfl rfl rfl (wn0 rfl) (fun R1 hR1 G => (y_move rfl)) ?_
      refine fj_val rfl rfl rfl (wn0 rfl) (fun R1 hR1 G => (y_move rfl)) ?_
      refine fj_val rfl rfl rfl (wn0 rfl) (fun R1 hR1 G => (y_callv rfl Try.call32 rfl (of_q2 op hgo (rowsG g) _ _ b5 (hall.mono hR1) iC (hc4.mono hR1)) (by (repeat (first|exact zN _|(apply zS;focus (repeat (first|exact zH _|apply zT)))))))) ?_
      refine fj_nil ?_
      refine xs_all [16, 17, 18] (by kernel_rfl) ⟨?_, ?_, ?_, trivial⟩
      ·refine yj_rj rfl ?_
       try simp only [List.cons_append, List.nil_append, List.append_nil]
       refine rj_alloc (wn0 rfl) rfl Try.zeroValue26 rfl (fun b12 => ?_)
       refine rj_yk (by (first | exact Hp.le_refl _ | assumption | exact Hp.le_trans ‹_› ‹_›)) (by (repeat (first|exact zR _|(apply zP;focus (repeat (first|exact zH _|apply zT)))|apply zD|exact zA _ _))) ?_
       refine xs_all [17, 18] (by kernel_rfl) ⟨?_, ?_, trivial⟩
       ·refine yj_rj rfl ?_
        try simp only [List.cons_append, List.nil_append, List.append_nil]
        refine rj_alloc (wn0 rfl) rfl Try.zeroValue26 rfl (fun b13 => ?_)
        refine rj_yk (by (first | exact Hp.le_refl _ | assumption | exact Hp.le_trans ‹_› ‹_›)) (by (repeat (first|exact zR _|(apply zP;focus (repeat (first|exact zH _|apply zT)))|apply zD|exact zA _ _))) ?_
        refine xs_all [18] (by kernel_rfl) ⟨?_, trivial⟩
        refine yj_rj rfl ?_
        try simp only [List.cons_append, List.nil_append, List.append_nil]
        refine rj_alloc (wn0 rfl) rfl Try.zeroValue26 rfl (fun b14 => ?_)
        refine rj_yk (by (first | exact Hp.le_refl _ | assumption | exact Hp.le_trans ‹_› ‹_›)) (by (repeat (first|exact zR _|(apply zP;focus (repeat (first|exact zH _|apply zT)))|apply zD|exact zA _ _))) ?_
        refine xs_nil ?_
        try simp only [List.cons_append, List.nil_append, List.append_nil]
        refine rj_stores_all (vs := valC (gaV op (rowsG (g.take N)))) ⟨Try.isAgg26, Try.sizeOf26⟩ rfl (wn0 rfl) rfl rfl (valE.one (R := R) (x := gaV op (rowsG (g.take N))) rfl) (by (repeat (first|exact zH _|apply zT));done) rfl ?_
        refine rj_stores_all (vs := valC (gaV op (rowsG (g.drop N)))) ⟨Try.isAgg26, Try.sizeOf26⟩ rfl (wn0 rfl) rfl rfl (valE.one (R := R) (x := gaV op (rowsG (g.drop N))) rfl) (by (repeat (first|exact zH _|apply zT));done) rfl ?_
        refine rj_stores_all (vs := valC (gaV op (rowsG g))) ⟨Try.isAgg26, Try.sizeOf26⟩ rfl (wn0 rfl) rfl rfl (valE.one (R := R) (x := gaV op (rowsG g)) rfl) (by (repeat (first|exact zH _|apply zT));done) rfl ?_
        refine rj_nil ?_
        refine ej_join hJ19 ((b12, b13, b14)) (trivial) (eC rfl (eC rfl (eC rfl (eC rfl (eC rfl (eC rfl (eC rfl (eC rfl (eC rfl (eC rfl eN)))))))))) rfl (by (repeat (first|exact zR _|(apply zP;focus (repeat (first|exact zH _|apply zT)))|apply zD|exact zA _ _)))
       ·refine yj_rj rfl ?_
        try simp only [List.cons_append, List.nil_append, List.append_nil]
        refine rj_alloc (wn0 rfl) rfl Try.zeroValue26 rfl (fun b14 => ?_)
        refine rj_yk (by (first | exact Hp.le_refl _ | assumption | exact Hp.le_trans ‹_› ‹_›)) (by (repeat (first|exact zR _|(apply zP;focus (repeat (first|exact zH _|apply zT)))|apply zD|exact zA _ _))) ?_
        refine xs_all [17] (by kernel_rfl) ⟨?_, trivial⟩
        refine yj_rj rfl ?_
        try simp only [List.cons_append, List.nil_append, List.append_nil]
        refine rj_alloc (wn0 rfl) rfl Try.zeroValue26 rfl (fun b13 => ?_)
        refine rj_yk (by (first | exact Hp.le_refl _ | assumption | exact Hp.le_trans ‹_› ‹_›)) (by (repeat (first|exact zR _|(apply zP;focus (repeat (first|exact zH _|apply zT)))|apply zD|exact zA _ _))) ?_
        refine xs_nil ?_
        try simp only [List.cons_append, List.nil_append, List.append_nil]
        refine rj_stores_all (vs := valC (gaV op (rowsG (g.take N)))) ⟨Try.isAgg26, Try.sizeOf26⟩ rfl (wn0 rfl) rfl rfl (valE.one (R := R) (x := gaV op (rowsG (g.take N))) rfl) (by (repeat (first|exact zH _|apply zT));done) rfl ?_
        refine rj_stores_all (vs := valC (gaV op (rowsG (g.drop N)))) ⟨Try.isAgg26, Try.sizeOf26⟩ rfl (wn0 rfl) rfl rfl (valE.one (R := R) (x := gaV op (rowsG (g.drop N))) rfl) (by (repeat (first|exact zH _|apply zT));done) rfl ?_
        refine rj_stores_all (vs := valC (gaV op (rowsG g))) ⟨Try.isAgg26, Try.sizeOf26⟩ rfl (wn0 rfl) rfl rfl (valE.one (R := R) (x := gaV op (rowsG g)) rfl) (by (repeat (first|exact zH _|apply zT));done) rfl ?_
        refine rj_nil ?_
        refine ej_join hJ19 ((b12, b13, b14)) (trivial) (eC rfl (eC rfl (eC rfl (eC rfl (eC rfl (eC rfl (eC rfl (eC rfl (eC rfl (eC rfl eN)))))))))) rfl (by (repeat (first|exact zR _|(apply zP;focus (repeat (first|exact zH _|apply zT)))|apply zD|exact zA _ _)))
      ·refine yj_rj rfl ?_
       try simp only [List.cons_append, List.nil_append, List.append_nil]
       refine rj_alloc (wn0 rfl) rfl Try.zeroValue26 rfl (fun b13 => ?_)
       refine rj_yk (by (first | exact Hp.le_refl _ | assumption | exact Hp.le_trans ‹_› ‹_›)) (by (repeat (first|exact zR _|(apply zP;focus (repeat (first|exact zH _|apply zT)))|apply zD|exact zA _ _))) ?_
       refine xs_all [16, 18] (by kernel_rfl) ⟨?_, ?_, trivial⟩
       ·refine yj_rj rfl ?_
        try simp only [List.cons_append, List.nil_append, List.append_nil]
        refine rj_alloc (wn0 rfl) rfl Try.zeroValue26 rfl (fun b12 => ?_)
        refine rj_yk (by (first | exact Hp.le_refl _ | assumption | exact Hp.le_trans ‹_› ‹_›)) (by (repeat (first|exact zR _|(apply zP;focus (repeat (first|exact zH _|apply zT)))|apply zD|exact zA _ _))) ?_
        refine xs_all [18] (by kernel_rfl) ⟨?_, trivial⟩
        refine yj_rj rfl ?_
        try simp only [List.cons_append, List.nil_append, List.append_nil]
        refine rj_alloc (wn0 rfl) rfl Try.zeroValue26 rfl (fun b14 => ?_)
        refine rj_yk (by (first | exact Hp.le_refl _ | assumption | exact Hp.le_trans ‹_› ‹_›)) (by (repeat (first|exact zR _|(apply zP;focus (repeat (first|exact zH _|apply zT)))|apply zD|exact zA _ _))) ?_
        refine xs_nil ?_
        try simp only [List.cons_append, List.nil_append, List.append_nil]
        refine rj_stores_all (vs := valC (gaV op (rowsG (g.take N)))) ⟨Try.isAgg26, Try.sizeOf26⟩ rfl (wn0 rfl) rfl rfl (valE.one (R := R) (x := gaV op (rowsG (g.take N))) rfl) (by (repeat (first|exact zH _|apply zT));done) rfl ?_
        refine rj_stores_all (vs := valC (gaV op (rowsG (g.drop N)))) ⟨Try.isAgg26, Try.sizeOf26⟩ rfl (wn0 rfl) rfl rfl (valE.one (R := R) (x := gaV op (rowsG (g.drop N))) rfl) (by (repeat (first|exact zH _|apply zT));done) rfl ?_
        refine rj_stores_all (vs := valC (gaV op (rowsG g))) ⟨Try.isAgg26, Try.sizeOf26⟩ rfl (wn0 rfl) rfl rfl (valE.one (R := R) (x := gaV op (rowsG g)) rfl) (by (repeat (first|exact zH _|apply zT));done) rfl ?_
        refine rj_nil ?_
        refine ej_join hJ19 ((b12, b13, b14)) (trivial) (eC rfl (eC rfl (eC rfl (eC rfl (eC rfl (eC rfl (eC rfl (eC rfl (eC rfl (eC rfl eN)))))))))) rfl (by (repeat (first|exact zR _|(apply zP;focus (repeat (first|exact zH _|apply zT)))|apply zD|exact zA _ _)))
       ·refine yj_rj rfl ?_
        try simp only [List.cons_append, List.nil_append, List.append_nil]
        refine rj_alloc (wn0 rfl) rfl Try.zeroValue26 rfl (fun b14 => ?_)
        refine rj_yk (by (first | exact Hp.le_refl _ | assumption | exact Hp.le_trans ‹_› ‹_›)) (by (repeat (first|exact zR _|(apply zP;focus (repeat (first|exact zH _|apply zT)))|apply zD|exact zA _ _))) ?_
        refine xs_all [16] (by kernel_rfl) ⟨?_, trivial⟩
        refine yj_rj rfl ?_
        try simp only [List.cons_append, List.nil_append, List.append_nil]
        refine rj_alloc (wn0 rfl) rfl Try.zeroValue26 rfl (fun b12 => ?_)
        refine rj_yk (by (first | exact Hp.le_refl _ | assumption | exact Hp.le_trans ‹_› ‹_›)) (by (repeat (first|exact zR _|(apply zP;focus (repeat (first|exact zH _|apply zT)))|apply zD|exact zA _ _))) ?_
        refine xs_nil ?_
        try simp only [List.cons_append, List.nil_append, List.append_nil]
        refine rj_stores_all (vs := valC (gaV op (rowsG (g.take N)))) ⟨Try.isAgg26, Try.sizeOf26⟩ rfl (wn0 rfl) rfl rfl (valE.one (R := R) (x := gaV op (rowsG (g.take N))) rfl) (by (repeat (first|exact zH _|apply zT));done) rfl ?_
        refine rj_stores_all (vs := valC (gaV op (rowsG (g.drop N)))) ⟨Try.isAgg26, Try.sizeOf26⟩ rfl (wn0 rfl) rfl rfl (valE.one (R := R) (x := gaV op (rowsG (g.drop N))) rfl) (by (repeat (first|exact zH _|apply zT));done) rfl ?_
        refine rj_stores_all (vs := valC (gaV op (rowsG g))) ⟨Try.isAgg26, Try.sizeOf26⟩ rfl (wn0 rfl) rfl rfl (valE.one (R := R) (x := gaV op (rowsG g)) rfl) (by (repeat (first|exact zH _|apply zT));done) rfl ?_
        refine rj_nil ?_
        refine ej_join hJ19 ((b12, b13, b14)) (trivial) (eC rfl (eC rfl (eC rfl (eC rfl (eC rfl (eC rfl (eC rfl (eC rfl (eC rfl (eC rfl eN)))))))))) rfl (by (repeat (first|exact zR _|(apply zP;focus (repeat (first|exact zH _|apply zT)))|apply zD|exact zA _ _)))
      ·refine yj_rj rfl ?_
       try simp only [List.cons_append, List.nil_append, List.append_nil]
       refine rj_alloc (wn0 rfl) rfl Try.zeroValue26 rfl (fun b14 => ?_)
       refine rj_yk (by (first | exact Hp.le_refl _ | assumption | exact Hp.le_trans ‹_› ‹_›)) (by (repeat (first|exact zR _|(apply zP;focus (repeat (first|exact zH _|apply zT)))|apply zD|exact zA _ _))) ?_
       refine xs_all [16, 17] (by kernel_rfl) ⟨?_, ?_, trivial⟩
       ·refine yj_rj rfl ?_
        try simp only [List.cons_append, List.nil_append, List.append_nil]
        refine rj_alloc (wn0 rfl) rfl Try.zeroValue26 rfl (fun b12 => ?_)
        refine rj_yk (by (first | exact Hp.le_refl _ | assumption | exact Hp.le_trans ‹_› ‹_›)) (by (repeat (first|exact zR _|(apply zP;focus (repeat (first|exact zH _|apply zT)))|apply zD|exact zA _ _))) ?_
        refine xs_all [17] (by kernel_rfl) ⟨?_, trivial⟩
        refine yj_rj rfl ?_
        try simp only [List.cons_append, List.nil_append, List.append_nil]
        refine rj_alloc (wn0 rfl) rfl Try.zeroValue26 rfl (fun b13 => ?_)
        refine rj_yk (by (first | exact Hp.le_refl _ | assumption | exact Hp.le_trans ‹_› ‹_›)) (by (repeat (first|exact zR _|(apply zP;focus (repeat (first|exact zH _|apply zT)))|apply zD|exact zA _ _))) ?_
        refine xs_nil ?_
        try simp only [List.cons_append, List.nil_append, List.append_nil]
        refine rj_stores_all (vs := valC (gaV op (rowsG (g.take N)))) ⟨Try.isAgg26, Try.sizeOf26⟩ rfl (wn0 rfl) rfl rfl (valE.one (R := R) (x := gaV op (rowsG (g.take N))) rfl) (by (repeat (first|exact zH _|apply zT));done) rfl ?_
        refine rj_stores_all (vs := valC (gaV op (rowsG (g.drop N)))) ⟨Try.isAgg26, Try.sizeOf26⟩ rfl (wn0 rfl) rfl rfl (valE.one (R := R) (x := gaV op (rowsG (g.drop N))) rfl) (by (repeat (first|exact zH _|apply zT));done) rfl ?_
        refine rj_stores_all (vs := valC (gaV op (rowsG g))) ⟨Try.isAgg26, Try.sizeOf26⟩ rfl (wn0 rfl) rfl rfl (valE.one (R := R) (x := gaV op (rowsG g)) rfl) (by (repeat (first|exact zH _|apply zT));done) rfl ?_
        refine rj_nil ?_
        refine ej_join hJ19 ((b12, b13, b14)) (trivial) (eC rfl (eC rfl (eC rfl (eC rfl (eC rfl (eC rfl (eC rfl (eC rfl (eC rfl (eC rfl eN)))))))))) rfl (by (repeat (first|exact zR _|(apply zP;focus (repeat (first|exact zH _|apply zT)))|apply zD|exact zA _ _)))
       ·refine yj_rj rfl ?_
        try simp only [List.cons_append, List.nil_append, List.append_nil]
        refine rj_alloc (wn0 rfl) rfl Try.zeroValue26 rfl (fun b13 => ?_)
        refine rj_yk (by (first | exact Hp.le_refl _ | assumption | exact Hp.le_trans ‹_› ‹_›)) (by (repeat (first|exact zR _|(apply zP;focus (repeat (first|exact zH _|apply zT)))|apply zD|exact zA _ _))) ?_
        refine xs_all [16] (by kernel_rfl) ⟨?_, trivial⟩
        refine yj_rj rfl ?_
        try simp only [List.cons_append, List.nil_append, List.append_nil]
        refine rj_alloc (wn0 rfl) rfl Try.zeroValue26 rfl (fun b12 => ?_)
        refine rj_yk (by (first | exact Hp.le_refl _ | assumption | exact Hp.le_trans ‹_› ‹_›)) (by (repeat (first|exact zR _|(apply zP;focus (repeat (first|exact zH _|apply zT)))|apply zD|exact zA _ _))) ?_
        refine xs_nil ?_
        try simp only [List.cons_append, List.nil_append, List.append_nil]
        refine rj_stores_all (vs := valC (gaV op (rowsG (g.take N)))) ⟨Try.isAgg26, Try.sizeOf26⟩ rfl (wn0 rfl) rfl rfl (valE.one (R := R) (x := gaV op (rowsG (g.take N))) rfl) (by (repeat (first|exact zH _|apply zT));done) rfl ?_
        refine rj_stores_all (vs := valC (gaV op (rowsG (g.drop N)))) ⟨Try.isAgg26, Try.sizeOf26⟩ rfl (wn0 rfl) rfl rfl (valE.one (R := R) (x := gaV op (rowsG (g.drop N))) rfl) (by (repeat (first|exact zH _|apply zT));done) rfl ?_
        refine rj_stores_all (vs := valC (gaV op (rowsG g))) ⟨Try.isAgg26, Try.sizeOf26⟩ rfl (wn0 rfl) rfl rfl (valE.one (R := R) (x := gaV op (rowsG g)) rfl) (by (repeat (first|exact zH _|apply zT));done) rfl ?_
        refine rj_nil ?_
        refine ej_join hJ19 ((b12, b13, b14)) (trivial) (eC rfl (eC rfl (eC rfl (eC rfl (eC rfl (eC rfl (eC rfl (eC rfl (eC rfl (eC rfl eN)))))))))) rfl (by (repeat (first|exact zR _|(apply zP;focus (repeat (first|exact zH _|apply zT)))|apply zD|exact zA _ _)))
     ·try simp only [dT, dF, nT, nF, tF, fT] at hc65
      refine cj_exit ?_
      refine hK22 _ _ _ ?_
      refine cj_env eN ?_
      refine cj_seq (fun K41 hK41 => ?_)
      refine cj_region ?_
      refine rv0 rfl rfl rfl (y_assign rfl) ?_
      refine rj_nil ?_
      refine hK41 _ _ _ ?_
      refine cj_ret ?_
      refine hret _ _ _ ?_
      apply ej_ret Try.results9 (.cons (rv_tmp rfl) .nil) _ [] (by first | exact hR0 | exact Hp.le_trans hR0 (Hp.le_trans hR1 (Hp.le_trans hR3 hR4))) rfl
      case hp => rfl
      case hS => (repeat (first|exact zR _|(apply zP;focus (repeat (first|exact zH _|apply zT)))|apply zD|exact zA _ _))
end V
end Go.Proofs.Ytghgifgmacapcaa
