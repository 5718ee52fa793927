/- The law EvalGroups, walked. -/
import Derived.Test.YtghgifgmacapcaaT18y
set_option linter.unusedSimpArgs false
set_option linter.unusedVariables false
set_option maxRecDepth 100000
namespace Go.Proofs.Ytghgifgmacapcaa
open Go.RowKit
namespace V
set_option maxHeartbeats 4000000
def arr3E : Elt (List Vl) where
  P := fun _ row cs => cs = valsC row ∧ row.length = 3
  sz := 9
  mono := fun _ h => h
  len := fun ⟨h, k⟩ => by subst h; rw [valsC_len, k]
  one := fun ⟨h, k⟩ u hu => by
    subst h
    obtain ⟨cs, hc, hu⟩ := List.mem_flatten.1 hu
    obtain ⟨v, _, rfl⟩ := List.mem_map.1 hc
    exact valE.one (R := Hp.emp) (x := v) rfl u hu
theorem rows_in {R : Hp} {v : Value} {zs : List (List (Int × Int × List UInt8))} (h : slcR 9 (arrR 3 3 vlR) R [v] zs) : FrX arr3E R (zs.map (List.map vlOf)) v ∧ ∀ r ∈ zs.map (List.map vlOf), ∀ v ∈ r, inV v :=
  ⟨slcR_frx (T := arr3E) (List.map vlOf) (fun c x _ h => ⟨(vals_in h).1, (vals_in h).2.1⟩) h, fun r hr => by
    obtain ⟨y, hy, rfl⟩ := List.mem_map.1 hr
    obtain ⟨c, _, h1⟩ := slcR_all h y hy
    exact (vals_in h1).2.2⟩
theorem evalGroups_t {R : Hp} (v0 : Value) (ys : List (Int × Int × List UInt8)) (h0 : slcR 3 vlR R [v0] ys) (c1 : List Value) (bs : List Bool) (h1 : arrR 3 1 boolR R c1 bs) (v2 : Value) (zs : List (List (Int × Int × List UInt8))) (h2 : slcR 9 (arrR 3 3 vlR) R [v2] zs) :
    Tri Try.prog 5 [v0, .agg ⟨c1⟩, v2] R [] (fun v _ _ => v = .bool true) := by
  obtain ⟨hst, hb⟩ := steps_in h0
  obtain ⟨rfl, hbl⟩ := bools_in h1
  obtain ⟨hrs, hin⟩ := rows_in h2
  have hvo := hst.one
  generalize ys.map stOf = l at hst hb
  generalize zs.map (List.map vlOf) = rows at hrs hin
  obtain ⟨q, cap, rfl, hcap, hcm⟩ := hrs.shape
  have hcl3 : (colsOf bs).length = 3 := by obtain ⟨a, b, d, rfl⟩ := three hbl; rfl
  refine tri_of Try.func5 rfl Try.ntmps5 rfl (fun σ F Q hret hend hpan => ?_)
  try simp only [List.cons_append, List.nil_append]
  refine cj_env (eL 0 rfl (eL 1 rfl (eL 2 rfl eN))) ?_
  refine cj_seq (fun K1 hK1 => ?_)
  refine cj_region ?_
  refine rj_box (wn0 rfl) rfl rfl rfl (fun b4 => ?_)
  refine rv0 rfl rfl rfl (y_assign rfl) ?_
  refine rj_nil ?_
  refine hK1 _ _ _ ?_
  refine cj_seq (fun K2 hK2 => ?_)
  refine cj_seq (fun K3 hK3 => ?_)
  refine cj_region ?_
  refine rj_call (wn0 rfl) rfl Try.call10 rfl (awake_t) (by (repeat (first|exact zN _|(apply zS;focus (repeat (first|exact zH _|apply zT)))))) (fun _ _ _ _ h => h.elim) ?_
  rintro v R0 L' hR0 ⟨rfl, rfl⟩
  replace hst := hst.mono hR0
  try simp only [List.cons_append, List.nil_append]
  refine rv0 rfl rfl rfl (y_not rfl) ?_
  refine rj_nil ?_
  refine hK3 _ _ _ ?_
  refine cj_env (eL 0 rfl (eL 2 rfl (eL 4 rfl (eL 18 rfl eN)))) ?_
  refine cj_cond_f rfl ?_
  refine cj_skip ?_
  refine hK2 _ _ _ ?_
  refine cj_seq (fun K4 hK4 => ?_)
  refine cj_region ?_
  refine rv0 rfl rfl rfl (y_move rfl) ?_
  refine rj_call (wn0 rfl) rfl Try.call11 rfl (pile_t l v0 hst hb) (by (repeat (first|exact zN _|(apply zS;focus (repeat (first|exact zH _|apply zT)))))) (fun _ _ _ _ h => h.elim) ?_
  rintro r R1 L' hR1 ⟨rfl, cs, ok, rfl, hcl, hco, hok⟩
  try simp only [List.cons_append, List.nil_append]
  refine rv0 rfl rfl rfl (y_move rfl) ?_
  refine rv0 rfl rfl rfl (y_extract rfl rfl) ?_
  refine rv0 rfl rfl rfl (y_extract rfl rfl) ?_
  refine rj_alloc (wn0 rfl) rfl Try.zeroValue29 rfl (fun b7 => ?_)
  refine rj_stores_all (vs := cs) ⟨Try.isAgg29, Try.sizeOf29⟩ hcl (wn0 rfl) rfl rfl hco (by (repeat (first|exact zH _|apply zT));done) rfl ?_
  refine rv0 rfl rfl rfl (y_assign rfl) ?_
  refine rj_nil ?_
  refine hK4 _ _ _ ?_
  refine cj_env (eL 2 rfl (eL 4 rfl (eL 7 rfl (eL 8 rfl eN)))) ?_
  refine cj_seq (fun K5 hK5 => ?_)
  refine cj_seq (fun K6 hK6 => ?_)
  refine cj_region ?_
  refine rv0 rfl rfl rfl (y_move rfl) ?_
  refine rv0 rfl rfl rfl (y_not rfl) ?_
  refine rv0 rfl rfl rfl (y_move rfl) ?_
  refine rj_part 26 rfl (fun hg26 => ?_) (fun hg26 => ?_)
  ·try simp only [dT, dF, nT, nF, tF, fT] at hg26
   refine rj_skip (wn2 rfl rfl rfl rfl rfl) rfl rfl ?_
   refine rj_skip (wn2 rfl rfl rfl rfl rfl) rfl rfl ?_
   refine rj_skip (wn2 rfl rfl rfl rfl rfl) rfl rfl ?_
   refine rv0 rfl rfl rfl (y_pick_t rfl rfl) ?_
   refine rj_nil ?_
   refine hK6 _ _ _ ?_
   refine cj_env (eL 2 rfl (eL 4 rfl (eL 7 rfl (eL 30 rfl eN)))) ?_
   refine cj_cond_t rfl ?_
   refine cj_seq (fun K7 hK7 => ?_)
   refine cj_region ?_
   refine rv0 rfl rfl rfl (y_assign rfl) ?_
   refine rj_nil ?_
   refine hK7 _ _ _ ?_
   refine cj_env (eL 6 rfl eN) ?_
   refine cj_ret ?_
   refine hret _ _ _ ?_
   apply ej_ret Try.results5 (.cons (rv_tmp rfl) .nil) _ [] (by first | exact Hp.le_trans hR0 hR1 | exact Hp.le_trans hR0 (Hp.le_trans hR1 (Hp.le_trans hR2 (Hp.le_trans hR3 hR4))) | exact Hp.le_trans hR0 (Hp.le_trans hR1 (Hp.le_trans hR2 hR3))) rfl
   case hp => rfl
   case hS => (repeat (first|exact zR _|(apply zP;focus (repeat (first|exact zH _|apply zT)))|apply zD|exact zA _ _))
  ·obtain rfl : ok = true := by simpa using hg26
   obtain ⟨x, hw, hx⟩ := hok rfl
   refine rj_val (wn1 rfl rfl rfl rfl) rfl rfl (y_move rfl) ?_
   first | refine rj_val (wn1 rfl rfl rfl rfl) rfl rfl (y_len_sl Try.underlying51 rfl) ?_ | refine rj_val (wn1 rfl rfl rfl rfl) rfl rfl (y_len_slc Try.underlying51 rfl (by (repeat (first|exact zH _|apply zT));done)) ?_
   refine rj_val (wn1 rfl rfl rfl rfl) rfl rfl (y_gtr rfl rfl) ?_
   refine rv0 rfl rfl rfl (y_pick_f rfl rfl) ?_
   refine rj_nil ?_
   refine hK6 _ _ _ ?_
   refine cj_env (eL 2 rfl (eL 4 rfl (eL 7 rfl (eL 30 rfl eN)))) ?_
   refine cj_cond rfl (fun hc30 => ?_) (fun hc30 => ?_)
   ·try simp only [dT, dF, nT, nF, tF, fT] at hc30
    refine cj_seq (fun K9 hK9 => ?_)
    refine cj_region ?_
    refine rv0 rfl rfl rfl (y_assign rfl) ?_
    refine rj_nil ?_
    refine hK9 _ _ _ ?_
    refine cj_env (eL 6 rfl eN) ?_
    refine cj_ret ?_
    refine hret _ _ _ ?_
    apply ej_ret Try.results5 (.cons (rv_tmp rfl) .nil) _ [] (by first | exact Hp.le_trans hR0 hR1 | exact Hp.le_trans hR0 (Hp.le_trans hR1 (Hp.le_trans hR2 (Hp.le_trans hR3 hR4))) | exact Hp.le_trans hR0 (Hp.le_trans hR1 (Hp.le_trans hR2 hR3))) rfl
    case hp => rfl
    case hS => (repeat (first|exact zR _|(apply zP;focus (repeat (first|exact zH _|apply zT)))|apply zD|exact zA _ _))
   ·have hl12 : rows.length ≤ 12 := by (try simp at hc30); omega
    refine cj_skip ?_
    refine hK5 _ _ _ ?_
    refine cj_seq (fun K10 hK10 => ?_)
    refine cj_region ?_
    refine rv0 rfl rfl rfl ((y_loads_all (vs := bs.map Value.bool) ⟨Try.isAgg23, Try.sizeOf23⟩ (by simp [hbl]) rfl (by (repeat (first|exact zH _|apply zT));done))) ?_
    refine rj_call (wn0 rfl) rfl Try.call13 rfl (cols_t bs hbl) (by (repeat (first|exact zN _|(apply zS;focus (repeat (first|exact zH _|apply zT)))))) (fun _ _ _ _ h => h.elim) ?_
    rintro v9 R2 L' hR2 ⟨hc9, rfl⟩
    obtain ⟨q9, cap9, rfl, _, _⟩ := hc9.shape
    have hrs2 := ((hrs.mono hR0).mono hR1).mono hR2
    have hx2 := hx.mono hR2
    try simp only [List.cons_append, List.nil_append]
    refine rv0 rfl rfl rfl (y_assign rfl) ?_
    refine rj_nil ?_
    refine hK10 _ _ _ ?_
    refine cj_env (eL 2 rfl (eL 7 rfl (eL 9 rfl eN))) ?_
    refine cj_seq (fun K11 hK11 => ?_)
    refine cj_region ?_
    refine rv0 rfl rfl rfl (y_assign rfl) ?_
    refine rj_add (A := slc 43 1 (.slice none 0 0) 0 ([] : List (List Value)).flatten) (slc_nil _ _) ?_
    refine rj_nil ?_
    refine hK11 _ _ _ ?_
    refine cj_seq (fun K12 hK12 => ?_)
    refine cj_seq (fun K13 hK13 => ?_)
    refine cj_region ?_
    refine rv0 rfl rfl rfl (y_move rfl) ?_
    first | refine rv0 rfl rfl rfl (y_len_sl Try.underlying51 rfl) ?_ | refine rv0 rfl rfl rfl (y_len_slc Try.underlying51 rfl (by (repeat (first|exact zH _|apply zT));done)) ?_
    refine rv0 rfl rfl rfl (y_move rfl) ?_
    refine rj_nil ?_
    refine hK13 _ _ _ ?_
    refine cj_block ?_
    refine cj_env (E' := (fun (x1 : Nat × Value × Hp × List (List Value)) => [(7, .pointer (some ⟨b7, 0, none⟩)), (9, .slice q9 (colsOf bs).length cap9), (10, x1.2.1), (33, .slice q rows.length cap), (34, .int .i64 (rows.length : Int)), (35, .int .i64 (x1.1 : Int))]) (0, .slice none 0 0, R2, [])) (eC rfl (eC rfl (eC rfl (eC rfl (eC rfl (eC rfl eN)))))) ?_
    refine cj_sub (M := (fun (x1 : Nat × Value × Hp × List (List Value)) => slc 43 1 x1.2.1 x1.2.2.2.length x1.2.2.2.flatten :: blk b7 cs 29 :: F) (0, .slice none 0 0, R2, [])) (by (repeat (first|exact zR _|(apply zP;focus (repeat (first|exact zH _|apply zT)))|apply zD|exact zA _ _))) ?_
    refine cj_loop (fun (x1 : Nat × Value × Hp × List (List Value)) => [(7, .pointer (some ⟨b7, 0, none⟩)), (9, .slice q9 (colsOf bs).length cap9), (10, x1.2.1), (33, .slice q rows.length cap), (34, .int .i64 (rows.length : Int)), (35, .int .i64 (x1.1 : Int))]) (fun (x1 : Nat × Value × Hp × List (List Value)) => x1.2.2.1) (fun (x1 : Nat × Value × Hp × List (List Value)) => slc 43 1 x1.2.1 x1.2.2.2.length x1.2.2.2.flatten :: blk b7 cs 29 :: F) (fun (x1 : Nat × Value × Hp × List (List Value)) => x1.1 ≤ rows.length ∧ x1.2.1.oneCell' = true ∧ R2.le x1.2.2.1 ∧ Els rowE x1.2.2.1 ((rows.take x1.1).map (rowV (colsOf bs))) x1.2.2.2) (fun (x1 : Nat × Value × Hp × List (List Value)) => rows.length - x1.1) (0, .slice none 0 0, R2, []) (⟨by simp, rfl, Hp.le_refl _, by simpa using Els.nil⟩) ?_
    rintro ⟨i, vl, R3, css⟩ ⟨hi, hvl, hR3, hels⟩
    try dsimp only
    dsimp only at hi hvl hR3 hels
    refine cj_seq (fun K14 hK14 => ?_)
    refine cj_region ?_
    refine rv0 rfl rfl rfl (y_lss rfl rfl) ?_
    refine rj_nil ?_
    refine hK14 _ _ _ ?_
    refine cj_seq (fun K15 hK15 => ?_)
    refine cj_cond rfl (fun hc36 => ?_) (fun hc36 => ?_)
    ·try simp only [dT, dF, nT, nF, tF, fT] at hc36
     refine cj_skip ?_
     refine hK15 _ _ _ ?_
     refine cj_seq (fun K17 hK17 => ?_)
     refine cj_block ?_
     refine cj_seq (fun K18 hK18 => ?_)
     refine cj_region ?_
     have hi2 : i < rows.length := by (try simp at hc36); omega
     obtain ⟨row, hr⟩ : ∃ r, rows[i]? = some r := ⟨_, List.getElem?_eq_getElem hi2⟩
     obtain ⟨br, orr, cpr, csr, her, ⟨rfl, hrl⟩, _, hcellr⟩ := (hrs2.mono hR3).at hr
     have hrin := hin row (List.mem_of_getElem? hr)
     have hrv := valsC_len row
     have hcssl : css.length = i := by have := hels.1; simp at this; omega
     obtain ⟨rfl, rfl⟩ : q = some ⟨br, orr, none⟩ ∧ cap = cpr := by cases her; exact ⟨rfl, rfl⟩
     first | refine rv0 rfl rfl rfl (y_indexAddr Try.underlying51 Try.sizeOf41 rfl rfl (by (first | omega | (dsimp only; omega) | (simp; done) | (simp; omega)))) ?_ | refine rv0 rfl rfl rfl (y_index_slc Try.underlying51 Try.sizeOf41 rfl rfl (by (repeat (first|exact zH _|apply zT));done) (by (first | omega | (dsimp only; omega) | (simp; done) | (simp; omega)))) ?_
     refine rv0 rfl rfl rfl ((y_loads_ro ⟨Try.isAgg41, Try.sizeOf41⟩ (vs := valsC row) (by omega) rfl (fun j u hj => hcellr j u hj))) ?_
     refine rj_alloc (wn0 rfl) rfl Try.zeroValue41 rfl (fun b12 => ?_)
     refine rj_stores_all (vs := valsC row) ⟨Try.isAgg41, Try.sizeOf41⟩ (by omega) (wn0 rfl) rfl rfl (arr3E.one (R := R3) (x := row) ⟨rfl, hrl⟩) (by (repeat (first|exact zH _|apply zT));done) rfl ?_
     refine rj_nil ?_
     refine hK18 _ _ _ ?_
     refine cj_env (eL 7 rfl (eL 9 rfl (eL 10 rfl (eL 12 rfl (eL 33 rfl (eL 34 rfl (eL 35 rfl eN))))))) ?_
     refine cj_seq (fun K19 hK19 => ?_)
     refine cj_seq (fun K20 hK20 => ?_)
     refine cj_region ?_
     refine rv0 rfl rfl rfl ((y_loads_all (vs := valsC row) ⟨Try.isAgg41, Try.sizeOf41⟩ (by omega) rfl (by (repeat (first|exact zH _|apply zT));done))) ?_
     refine rv0 rfl rfl rfl (y_call Try.call17 rfl (few_q row hrl) (by (repeat (first|exact zN _|(apply zS;focus (repeat (first|exact zH _|apply zT))))))) ?_
     refine rv0 rfl rfl rfl (y_not rfl) ?_
     refine rj_nil ?_
     refine hK20 _ _ _ ?_
     refine cj_cond rfl (fun hc41 => ?_) (fun hc41 => ?_)
     ·try simp only [dT, dF, nT, nF, tF, fT] at hc41
      refine cj_seq (fun K22 hK22 => ?_)
      refine cj_region ?_
      refine rv0 rfl rfl rfl (y_assign rfl) ?_
      refine rj_nil ?_
      refine hK22 _ _ _ ?_
      refine cj_env (eL 6 rfl eN) ?_
      refine cj_ret ?_
      refine hret _ _ _ ?_
      apply ej_ret Try.results5 (.cons (rv_tmp rfl) .nil) _ [] (by first | exact Hp.le_trans hR0 hR1 | exact Hp.le_trans hR0 (Hp.le_trans hR1 (Hp.le_trans hR2 (Hp.le_trans hR3 hR4))) | exact Hp.le_trans hR0 (Hp.le_trans hR1 (Hp.le_trans hR2 hR3))) rfl
      case hp => rfl
      case hS => (repeat (first|exact zR _|(apply zP;focus (repeat (first|exact zH _|apply zT)))|apply zD|exact zA _ _))
     ·try simp only [dT, dF, nT, nF, tF, fT] at hc41
      refine cj_skip ?_
      refine hK19 _ _ _ ?_
      refine cj_env (eL 7 rfl (eL 9 rfl (eL 10 rfl (eL 12 rfl (eL 33 rfl (eL 34 rfl (eL 35 rfl eN))))))) ?_
      refine cj_region ?_
      refine rv0 rfl rfl rfl (y_move rfl) ?_
      refine rv0 rfl rfl rfl (y_move rfl) ?_
      refine rv0 rfl rfl rfl ((y_loads_all (vs := valsC row) ⟨Try.isAgg41, Try.sizeOf41⟩ (by omega) rfl (by (repeat (first|exact zH _|apply zT));done))) ?_
      refine rj_call (wn0 rfl) rfl Try.call18 rfl (row_t (colsOf bs) _ row (hc9.mono hR3) hcl3 hrl (fun v hv => (hrin v hv).2)) (by (repeat (first|exact zN _|(apply zS;focus (repeat (first|exact zH _|apply zT)))))) (fun _ _ _ _ h => h.elim) ?_
      rintro v45 R4 L' hR4 ⟨hr45, rfl⟩
      obtain ⟨q45, cap45, rfl, _, _⟩ := hr45.shape
      try simp only [List.cons_append, List.nil_append]
      refine rj_buildSlice (sz := 1) (wn0 rfl) rfl Try.underlying45 Try.sizeOf43 Try.zeroValue43 rfl rfl rfl (by decide) (by decide) (fun bz => ?_)
      refine rj_append (sz := 1) (by_ := 24) ⟨Try.underlying45, _, _, rfl, rfl, rfl, rfl, rfl⟩ (wn0 rfl) rfl rfl rfl (by (repeat (first|exact zH _|apply zT));done) (src_slc (xs := [.slice q45 (rowV (colsOf bs) row).length cap45]) Try.underlying45 (by (repeat (first|exact zH _|apply zT));done) (fun u hu => by simp at hu; subst hu; rfl)) rfl (by (first | omega | (dsimp only; omega) | (simp; done) | (simp; omega))) (by simp only [maxLen]; omega) (fun v47 ho47 hh47 => ?_)
      rw [flat_snoc, show css.length + 1 = (css ++ [[Value.slice q45 (rowV (colsOf bs) row).length cap45]]).length by simp]
      refine rv0 rfl rfl rfl (y_assign rfl) ?_
      refine rj_nil ?_
      refine hK17 _ _ _ ?_
      refine cj_env (eL 7 rfl (eL 9 rfl (eL 10 rfl (eL 33 rfl (eL 34 rfl (eL 35 rfl eN)))))) ?_
      refine cj_region ?_
      first | refine rv0 rfl rfl rfl (y_add64 rfl rfl (by (first | omega | (dsimp only; omega) | (simp; done) | (simp; omega)))) ?_ | refine rv0 rfl rfl rfl (y_add rfl rfl) ?_
      refine rv0 rfl rfl rfl (y_move rfl) ?_
      refine rj_nil ?_
      refine ej_on (q' := roundK _ _ _ _ _ _ _) rfl ?_
      refine ej_round ((i + 1, v47, R4, css ++ [[.slice q45 (rowV (colsOf bs) row).length cap45]])) (⟨by dsimp only; omega, by assumption, Hp.le_trans hR3 hR4, by dsimp only; rw [map_snoc hr]; exact Els.snoc (hels.mono hR4) ⟨_, rfl, hr45⟩⟩) (by dsimp only; omega) (eC rfl (eC rfl (eC rfl (eC rfl (eC rfl (eC rfl eN)))))) rfl (by (repeat (first|exact zR _|(apply zP;focus (repeat (first|exact zH _|apply zT)))|apply zD|exact zA _ _)))
    ·try simp only [dT, dF, nT, nF, tF, fT] at hc36
     refine cj_exit ?_
     refine hK12 _ _ _ ?_
     refine cj_env (eL 7 rfl (eL 9 rfl (eL 10 rfl eN))) ?_
     refine cj_seq (fun K23 hK23 => ?_)
     refine cj_region ?_
     obtain rfl : i = rows.length := by (try simp at hc36); omega
     rw [List.take_length] at hels
     have hcl12 : css.length = rows.length := by have := hels.1; simpa using this
     refine rj_freeze (e := 43) (sz := 1) (n := css.length) (xs := css.flatten) (by (repeat (first|exact zH _|apply zT));done) (fun R4 hR4 hfr4 hxl4 => ?_)
     have hall : FrX rowE R4 (rows.map (rowV (colsOf bs))) vl := FrozenS.frx (by rw [hels.1] at hfr4; exact hfr4) (hels.mono hR4)
     have hx4 := (hx2.mono hR3).mono hR4
     have hc4 := (hc9.mono hR3).mono hR4
     have hin4 : ∀ r ∈ rows.map (rowV (colsOf bs)), ∀ v ∈ r, inV v := fun r hr => by obtain ⟨y, hy, rfl⟩ := List.mem_map.1 hr; exact inV_rowV (hin y hy)
     obtain ⟨u, e, hpe, hoe⟩ := pairV_open (allV (colsOf bs) (rows.map (rowV (colsOf bs))) x) allV_e
     refine rv0 rfl rfl rfl ((y_loads_all (vs := cs) ⟨Try.isAgg29, Try.sizeOf29⟩ hcl rfl (by (repeat (first|exact zH _|apply zT));done))) ?_
     refine rv0 rfl rfl rfl (y_move rfl) ?_
     refine rv0 rfl rfl rfl (y_move rfl) ?_
     refine rv0 rfl rfl rfl (y_call Try.call21 rfl ((All_q x cs (colsOf bs) _ _ _ hw hx4 hc4 colsOf_ok hall hin4).eq hpe) (by (repeat (first|exact zN _|(apply zS;focus (repeat (first|exact zH _|apply zT))))))) ?_
     refine rv0 rfl rfl rfl (y_move rfl) ?_
     refine rv0 rfl rfl rfl (y_extract rfl rfl) ?_
     refine rv0 rfl rfl rfl (y_extract rfl rfl) ?_
     refine rj_alloc (wn0 rfl) rfl Try.zeroValue26 rfl (fun b13 => ?_)
     refine rj_stores_all (vs := valC u) ⟨Try.isAgg26, Try.sizeOf26⟩ rfl (wn0 rfl) rfl rfl (valE.one (R := R) (x := u) rfl) (by (repeat (first|exact zH _|apply zT));done) rfl ?_
     refine rv0 rfl rfl rfl (y_assign rfl) ?_
     refine rj_nil ?_
     refine hK23 _ _ _ ?_
     refine cj_env (eL 7 rfl (eL 9 rfl (eL 10 rfl (eL 13 rfl (eL 14 rfl eN))))) ?_
     refine cj_seq (fun K24 hK24 => ?_)
     refine cj_region ?_
     refine rv0 rfl rfl rfl ((y_loads_all (vs := cs) ⟨Try.isAgg29, Try.sizeOf29⟩ hcl rfl (by (repeat (first|exact zH _|apply zT));done))) ?_
     refine rv0 rfl rfl rfl (y_move rfl) ?_
     refine rv0 rfl rfl rfl (y_move rfl) ?_
     refine rv0 rfl rfl rfl (y_call Try.call22 rfl ((rAll_q x cs (colsOf bs) _ _ _ hw hx4 hc4 colsOf_ok hall hin4).eq hpe) (by (repeat (first|exact zN _|(apply zS;focus (repeat (first|exact zH _|apply zT))))))) ?_
     refine rv0 rfl rfl rfl (y_move rfl) ?_
     refine rv0 rfl rfl rfl (y_extract rfl rfl) ?_
     refine rv0 rfl rfl rfl (y_extract rfl rfl) ?_
     refine rj_alloc (wn0 rfl) rfl Try.zeroValue26 rfl (fun b15 => ?_)
     refine rj_stores_all (vs := valC u) ⟨Try.isAgg26, Try.sizeOf26⟩ rfl (wn0 rfl) rfl rfl (valE.one (R := R) (x := u) rfl) (by (repeat (first|exact zH _|apply zT));done) rfl ?_
     refine rv0 rfl rfl rfl (y_assign rfl) ?_
     refine rj_nil ?_
     refine hK24 _ _ _ ?_
     refine cj_env (eL 13 rfl (eL 14 rfl (eL 15 rfl (eL 16 rfl eN)))) ?_
     refine cj_seq (fun K25 hK25 => ?_)
     refine cj_region ?_
     refine rv0 rfl rfl rfl ((y_loads_all (vs := valC u) ⟨Try.isAgg26, Try.sizeOf26⟩ rfl rfl (by (repeat (first|exact zH _|apply zT));done))) ?_
     refine rv0 rfl rfl rfl ((y_loads_all (vs := valC u) ⟨Try.isAgg26, Try.sizeOf26⟩ rfl rfl (by (repeat (first|exact zH _|apply zT));done))) ?_
     refine rv0 rfl rfl rfl ((Yld.to (u := .bool true) (y_steq (by kernel_rfl) rfl rfl (val_eq u u)) (by simp))) ?_
     refine rv0 rfl rfl rfl (y_move rfl) ?_
     refine rj_val (wn1 rfl rfl rfl rfl) rfl rfl (y_move rfl) ?_
     refine rj_val (wn1 rfl rfl rfl rfl) rfl rfl (y_move rfl) ?_
     refine rj_val (wn1 rfl rfl rfl rfl) rfl rfl (y_eql rfl rfl) ?_
     refine rj_eq 69 rfl (v' := .bool true) (by simp) ?_
     refine rv0 rfl rfl rfl (y_pick_t rfl rfl) ?_
     refine rv0 rfl rfl rfl (y_assign rfl) ?_
     refine rj_nil ?_
     refine hK25 _ _ _ ?_
     refine cj_env (eL 6 rfl eN) ?_
     refine cj_ret ?_
     refine hret _ _ _ ?_
     apply ej_ret Try.results5 (.cons (rv_tmp rfl) .nil) _ [] (by first | exact Hp.le_trans hR0 hR1 | exact Hp.le_trans hR0 (Hp.le_trans hR1 (Hp.le_trans hR2 (Hp.le_trans hR3 hR4))) | exact Hp.le_trans hR0 (Hp.le_trans hR1 (Hp.le_trans hR2 hR3))) rfl
     case hp => rfl
     case hS => (repeat (first|exact zR _|(apply zP;focus (repeat (first|exact zH _|apply zT)))|apply zD|exact zA _ _))
end V
end Go.Proofs.Ytghgifgmacapcaa
