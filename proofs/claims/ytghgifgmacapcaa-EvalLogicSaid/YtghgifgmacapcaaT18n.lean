/- A value, walked. -/
import Derived.Test.YtghgifgmacapcaaT18m
set_option linter.unusedSimpArgs false
set_option linter.unusedVariables false
set_option maxRecDepth 100000
namespace Go.Proofs.Ytghgifgmacapcaa
open Go.RowKit
namespace V
set_option maxHeartbeats 4000000
def valsV (l : List Vl) : List Value := (l.map valC).flatten
theorem valsV_snoc (l : List Vl) (v : Vl) : valsV l ++ valC v = valsV (l ++ [v]) := by simp [valsV]
theorem valsFr {R : Hp} {l : List Vl} {v : Value} (h : FrozenS R v l.length (valsV l)) : FrX valE R l v := by
  refine FrozenS.frx (css := l.map valC) h ⟨by simp, fun i x cs h1 h2 => ?_⟩
  rw [List.getElem?_map, h1] at h2
  simpa [valE] using h2.symm
theorem bare_kid {op : Op} {v : Vl} {name : Bs} {kids : List Ex} {y : Ex} (h5 : ¬ fam op = 5) (hy : y ∈ kids) (h : bareB y = true) : bareB (.mk op v name kids) = true := by
  rw [bareB, bareL_any, decide_eq_true h5, List.any_eq_true.2 ⟨y, hy, h⟩]; simp
theorem group_kid {cols : List Cl} {m : Bool} {kids : List Ex} (h : (kindsX cols m kids).2 = 0) {y : Ex} (hy : y ∈ kids) : (kindX cols m y).2 = 0 := by
  obtain ⟨i, hi⟩ := List.mem_iff_getElem?.1 hy
  exact (kindsX_kid h hi).1
theorem group_snd {cols : List Cl} (hck : ∀ c ∈ cols, kok c.kind) {op : Op} {lit : Vl} {name : Bs} {kids : List Ex} {may : Bool} {rows : List (List Vl)} (hw : WfX (.mk op lit name kids)) (h5 : fam op = 5)
    (hkk : (kstep cols may op lit name (kindsX cols (may && decide (¬ fam op = 5)) kids)).2 = 0) (hk0 : (kindsX cols (may && decide (¬ fam op = 5)) kids).2 = 0) (hro : RowsOK cols rows)
    (hsd : ∀ y ∈ kids, ∀ (m : Bool) (rows' : List (List Vl)) (u : Vl), RowsOK cols rows' → (kindX cols m y).2 = 0 → evX vstep gstep cols rows' y = .ok u → sndV u ∧ (u.kind = 0 ∨ u.kind = (kindX cols m y).1)) :
    ∃ K : Int, (op = .sum → K = 0 ∨ K = 1) ∧ ∀ y ∈ kids, ∀ row ∈ rows, ∀ v, evX vstep gstep cols [row] y = .ok v → sndV v ∧ (v.kind = 0 ∨ v.kind = K) := by
  by_cases hc : op = .count
  · subst hc
    have : kids = [] := List.eq_nil_of_length_eq_zero hw.inv.1
    subst this
    exact ⟨0, (fun h => by cases h), (fun y hy => by simp at hy)⟩
  · obtain ⟨k, rfl⟩ := kid1 hw.inv.1 h5 hc
    have hky := group_kid hk0 (y := k) (by simp)
    refine ⟨(kindX cols (may && decide (¬ fam op = 5)) k).1, fun hs => ?_, fun y hy row hr v hv => ?_⟩
    · subst hs
      have h8 := kindX_kok hck (may && decide (¬ fam .sum = 5)) k (hw.inv.2.2.2 k (by simp))
      have h7 : ¬ (kindX cols (may && decide (¬ fam .sum = 5)) k).1 = 2 := by
        intro h
        unfold kstep at hkk
        rw [if_neg (by simpa using hk0), if_neg (by decide), if_neg (by decide), if_neg (by decide), if_pos (by decide)] at hkk
        have h9 : (kindsX cols (may && decide (¬ fam .sum = 5)) [k]).1.contains 2 = true := by
          rw [kindsX]; simp only; rw [if_neg (by simpa using hky), kindsX]; simp only; rw [if_neg (by decide), h]; decide
        rw [h9] at hkk
        simp at hkk
      rcases h8 with h | h | h
      · exact .inl h
      · exact .inr h
      · exact absurd h h7
    · simp at hy; subst hy
      exact hsd y (by simp) _ [row] v (hro.one hr) hky hv
theorem value_p (N : Nat) : ∀ (x : Ex) (cs : List Value) {R : Hp} (cols : List Cl) (vc : Value) (rows : List (List Vl)) (vr : Value) (may : Bool), SizeOf.sizeOf x ≤ N → WfX x → RepX R x cs → FrX colE R cols vc → (∀ c ∈ cols, kok c.kind) → FrX rowE R rows vr → RowsOK cols rows → (kindX cols may x).2 = 0 → (bareB x = true → rows ≠ []) →
    Giv 42 [.agg ⟨[vc, vr]⟩, .agg ⟨cs⟩] R [] (resV (evX vstep gstep cols rows x)) := by
  induction N using Nat.strongRecOn with
  | _ N ih =>
  intro x cs R cols vc rows vr may hN hw hx hc hck hr hro hk hb
  obtain ⟨op, lit, name, kids, vk, rfl, rfl, hkx⟩ := hx.inv
  have hkid : ∀ y ∈ kids, ∀ (m : Bool) (rows' : List (List Vl)) (vr' : Value) (cy : List Value), RepX R y cy → FrX rowE R rows' vr' → RowsOK cols rows' → (kindX cols m y).2 = 0 → (bareB y = true → rows' ≠ []) → Giv 42 [.agg ⟨[vc, vr']⟩, .agg ⟨cy⟩] R [] (resV (evX vstep gstep cols rows' y)) := fun y hy m rows' vr' cy h1 h2 h3 h4 h6 =>
    ih (SizeOf.sizeOf y) (by have := List.sizeOf_lt_of_mem hy; simp at hN; omega) y cy cols vc rows' vr' m (Nat.le_refl _) (hw.inv.2.2.2 y hy) h1 hc hck h2 h3 h4 h6
  clear ih
  have hkk := hk
  rw [kindX_step] at hkk
  have hk0 := kstep_zero hkk
  have har := hw.inv.1
  have hsd := fun (y : Ex) (hy : y ∈ kids) (m : Bool) (rows' : List (List Vl)) (u : Vl) (h1 : RowsOK cols rows') (h2 : (kindX cols m y).2 = 0) (h3 : evX vstep gstep cols rows' y = .ok u) => sound hck _ y m rows' u (Nat.le_refl _) (hw.inv.2.2.2 y hy) h1 h2 h3
  obtain ⟨q, cap, rfl, hcap, hcm⟩ := hkx.shape
  obtain ⟨qc, capc, rfl, hcc1, hcc2⟩ := hc.shape
  obtain ⟨qr, capr, rfl, hcr1, hcr2⟩ := hr.shape
  have hlb : kids.length ≤ 2 := by rw [har]; cases op <;> decide
  have hxo := hx.one
  obtain ⟨res, hres⟩ : ∃ r, evX vstep gstep cols rows (.mk op lit name kids) = r := ⟨_, rfl⟩
  rw [hres]
  rw [evX] at hres
  refine PTri.of ?_
  unfold exC
  refine tri_of Try.func42 rfl Try.ntmps42 rfl (fun σ F Q hret hend hpan => ?_)
  try simp only [List.cons_append, List.nil_append]
  refine cj_env (eL 0 rfl (eL 1 rfl eN)) ?_
  refine cj_seq (fun K1 hK1 => ?_)
  refine cj_region ?_
  refine rj_box (wn0 rfl) rfl rfl rfl (fun b2 => ?_)
  refine rj_box (wn0 rfl) rfl rfl rfl (fun b3 => ?_)
  refine rj_alloc (wn0 rfl) rfl Try.zeroValue26 rfl (fun b4 => ?_)
  refine rj_nil ?_
  refine hK1 _ _ _ ?_
  refine cj_seq (fun K2 hK2 => ?_)
  refine cj_seq (fun K3 hK3 => ?_)
  refine cj_region ?_
  refine rv0 rfl rfl rfl (y_fieldAddr (k := 0) Try.underlying29 rfl (n := 1) (by decide) Try.sizeOf9 rfl) ?_
  first | refine rv0 rfl rfl rfl (y_load ⟨Try.isAgg9, Try.sizeOf9⟩ rfl (by (repeat (first|exact zH _|apply zT));done) rfl) ?_ | refine rv0 rfl rfl rfl (y_load_slc ⟨Try.isAgg9, Try.sizeOf9⟩ rfl (by (repeat (first|exact zH _|apply zT));done) rfl) ?_
  refine rj_nil ?_
  refine hK3 _ _ _ ?_
  refine cj_env (eL 2 rfl (eL 3 rfl (eL 4 rfl (eL 10 rfl eN)))) ?_
  refine cj_block ?_
  refine cj_seq (fun K4 hK4 => ?_)
  refine cj_region ?_
  refine rv0 rfl rfl rfl (y_seql rfl rfl) ?_
  refine rv0 rfl rfl rfl (y_assign rfl) ?_
  refine rj_nil ?_
  refine hK4 _ _ _ ?_
  refine cj_cond rfl (fun hc11 => ?_) (fun hc11 => ?_)
  ·obtain rfl := Op.is hc11 rfl
   refine cj_seq (fun K6 hK6 => ?_)
   refine cj_region ?_
   refine rv0 rfl rfl rfl (y_fieldAddr (k := 1) Try.underlying29 rfl (n := 3) (by decide) Try.sizeOf26 rfl) ?_
   first | refine rv0 rfl rfl rfl (y_loads_blk ⟨Try.isAgg26, Try.sizeOf26⟩ rfl (by (repeat (first|exact zH _|apply zT));done) rfl rfl) ?_ | refine rv0 rfl rfl rfl (y_loads_slc ⟨Try.isAgg26, Try.sizeOf26⟩ rfl (by (repeat (first|exact zH _|apply zT));done) rfl rfl (by (first | omega | (dsimp only; omega) | (simp; done) | (simp; omega)))) ?_
   refine rj_stores_all (vs := valC lit) ⟨Try.isAgg26, Try.sizeOf26⟩ rfl (wn0 rfl) rfl rfl (valE.one (R := R) (x := lit) rfl) (by (repeat (first|exact zH _|apply zT));done) rfl ?_
   refine rj_nil ?_
   refine hK6 _ _ _ ?_
   refine cj_env (eL 4 rfl eN) ?_
   refine cj_ret ?_
   refine hret _ _ _ ?_
   apply ej_ret Try.results42 (.cons (rv_cells ⟨Try.isAgg26, Try.sizeOf26⟩ rfl (by (repeat (first|exact zH _|apply zT));done) rfl rfl) .nil) _ [] (by (first | exact Hp.le_refl _ | assumption | exact Hp.le_trans ‹_› ‹_›)) rfl
   case hp => rw [if_pos rfl] at hres; exact ⟨by rw [← hres]; rfl, rfl⟩
   case hS => (repeat (first|exact zR _|(apply zP;focus (repeat (first|exact zH _|apply zT)))|apply zD|exact zA _ _))
  ·have nval : ¬ op = .val := by rintro rfl; simp [Op.str] at hc11
   refine cj_seq (fun K7 hK7 => ?_)
   refine cj_region ?_
   refine rv0 rfl rfl rfl (y_seql rfl rfl) ?_
   refine rv0 rfl rfl rfl (y_assign rfl) ?_
   refine rj_nil ?_
   refine hK7 _ _ _ ?_
   refine cj_env (eL 2 rfl (eL 3 rfl (eL 4 rfl (eL 15 rfl eN)))) ?_
   refine cj_cond rfl (fun hc15 => ?_) (fun hc15 => ?_)
   ·obtain rfl := Op.is hc15 rfl
    refine cj_seq (fun K9 hK9 => ?_)
    have hp5 : ¬ placeC cols name < 0 := by intro hp; rw [kstep] at hkk; rw [if_neg (by simpa using hk0)] at hkk; simp [fam, hp] at hkk
    obtain ⟨c5, hc5, hd5, _⟩ := placeC_at hp5
    obtain ⟨row, rest, rfl⟩ : ∃ row rest, rows = row :: rest := by cases rows with | nil => exact absurd rfl (hb (by rw [bareB]; rfl)) | cons row rest => exact ⟨row, rest, rfl⟩
    have ha5 := all2_iff.1 (hro.all row (by simp))
    have hl5 := (List.getElem?_eq_some_iff.1 hc5).1
    obtain ⟨u5, hu5⟩ : ∃ u, row[(placeC cols name).toNat]? = some u := ⟨_, List.getElem?_eq_getElem (by omega)⟩
    obtain ⟨br, orr, cpr, csr, her, ⟨vrow, rfl, hrow⟩, _, hcellr⟩ := hr.at (i := 0) (x := row) rfl
    obtain ⟨rfl, rfl⟩ : qr = some ⟨br, orr, none⟩ ∧ capr = cpr := by cases her; exact ⟨rfl, rfl⟩
    obtain ⟨bu, ou, cpu, csu, rfl, rfl, _, hcellu⟩ := hrow.at hu5
    refine cj_mix [0, 1, 2, 3, 4, 5, 6, 7, 8, 9, 10] [] [11] (by kernel_rfl) (by kernel_rfl) (by kernel_rfl) rfl ?_
    refine fj_val rfl rfl rfl (wn0 rfl) (fun R1 hR1 G => (y_fieldAddr (k := 1) Try.underlying81 rfl (n := 1) (by decide) Try.sizeOf45 rfl)) ?_
    first | refine fj_val rfl rfl rfl (wn0 rfl) (fun R1 hR1 G => (y_load ⟨Try.isAgg45, Try.sizeOf45⟩ rfl (by (repeat (first|exact zH _|apply zT));done) rfl)) ?_ | refine fj_val rfl rfl rfl (wn0 rfl) (fun R1 hR1 G => (y_load_slc ⟨Try.isAgg45, Try.sizeOf45⟩ rfl (by (repeat (first|exact zH _|apply zT));done) rfl)) ?_
    first | refine fj_val rfl rfl rfl (wn0 rfl) (fun R1 hR1 G => (y_indexAddr Try.underlying45 Try.sizeOf43 rfl rfl (by (first | omega | (dsimp only; omega) | (simp; done) | (simp; omega))))) ?_ | refine fj_val rfl rfl rfl (wn0 rfl) (fun R1 hR1 G => (y_index_slc Try.underlying45 Try.sizeOf43 rfl rfl (by (repeat (first|exact zH _|apply zT));done) (by (first | omega | (dsimp only; omega) | (simp; done) | (simp; omega))))) ?_
    refine fj_val rfl rfl rfl (wn0 rfl) (fun R1 hR1 G => (y_load_ro ⟨Try.isAgg43, Try.sizeOf43⟩ rfl (cell_mono hR1 (hcellr 0 _ rfl)))) ?_
    refine fj_val rfl rfl rfl (wn0 rfl) (fun R1 hR1 G => (y_fieldAddr (k := 0) Try.underlying81 rfl (n := 1) (by decide) Try.sizeOf35 rfl)) ?_
    first | refine fj_val rfl rfl rfl (wn0 rfl) (fun R1 hR1 G => (y_load ⟨Try.isAgg35, Try.sizeOf35⟩ rfl (by (repeat (first|exact zH _|apply zT));done) rfl)) ?_ | refine fj_val rfl rfl rfl (wn0 rfl) (fun R1 hR1 G => (y_load_slc ⟨Try.isAgg35, Try.sizeOf35⟩ rfl (by (repeat (first|exact zH _|apply zT));done) rfl)) ?_
    refine fj_val rfl rfl rfl (wn0 rfl) (fun R1 hR1 G => (y_fieldAddr (k := 4) Try.underlying29 rfl (n := 1) (by decide) Try.sizeOf9 rfl)) ?_
    first | refine fj_val rfl rfl rfl (wn0 rfl) (fun R1 hR1 G => (y_load ⟨Try.isAgg9, Try.sizeOf9⟩ rfl (by (repeat (first|exact zH _|apply zT));done) rfl)) ?_ | refine fj_val rfl rfl rfl (wn0 rfl) (fun R1 hR1 G => (y_load_slc ⟨Try.isAgg9, Try.sizeOf9⟩ rfl (by (repeat (first|exact zH _|apply zT));done) rfl)) ?_
    refine fj_val rfl rfl rfl (wn0 rfl) (fun R1 hR1 G => (y_call Try.call53 rfl (place_q cols _ (hc.mono hR1) name) (by (repeat (first|exact zN _|(apply zS;focus (repeat (first|exact zH _|apply zT)))))))) ?_
    refine fj_val rfl rfl rfl (wn0 rfl) (fun R1 hR1 G => (y_indexAddr Try.underlying43 Try.sizeOf26 rfl rfl (by omega))) ?_
    refine fj_val rfl rfl rfl (wn0 rfl) (fun R1 hR1 G => (y_loads_ro ⟨Try.isAgg26, Try.sizeOf26⟩ (vs := valC u5) rfl rfl (fun j u hj => cell_mono hR1 (hcellu j u hj)))) ?_
    refine fj_nil ?_
    refine xj_nil ?_
    try simp only [List.cons_append, List.nil_append, List.append_nil]
    refine rj_stores_all (vs := valC (u5)) ⟨Try.isAgg26, Try.sizeOf26⟩ rfl (wn0 rfl) rfl rfl (valE.one (R := R) (x := u5) rfl) (by (repeat (first|exact zH _|apply zT));done) rfl ?_
    refine rj_nil ?_
    refine hK9 _ _ _ ?_
    refine cj_env (eL 4 rfl eN) ?_
    refine cj_ret ?_
    refine hret _ _ _ ?_
    apply ej_ret Try.results42 (.cons (rv_cells ⟨Try.isAgg26, Try.sizeOf26⟩ rfl (by (repeat (first|exact zH _|apply zT));done) rfl rfl) .nil) _ [] (by (first | exact Hp.le_refl _ | assumption | exact Hp.le_trans ‹_› ‹_›)) rfl
    case hp => rw [if_neg (by decide), if_pos rfl] at hres; exact ⟨by rw [← hres]; simp [List.getD_eq_getElem?_getD, hu5]; rfl, rfl⟩
    case hS => (repeat (first|exact zR _|(apply zP;focus (repeat (first|exact zH _|apply zT)))|apply zD|exact zA _ _))
   ·have ncol : ¬ op = .col := by rintro rfl; simp [Op.str] at hc15
    refine cj_skip ?_
    refine hK2 _ _ _ ?_
    refine cj_seq (fun K10 hK10 => ?_)
    refine cj_seq (fun K11 hK11 => ?_)
    refine cj_region ?_
    refine rv0 rfl rfl rfl (y_fieldAddr (k := 0) Try.underlying29 rfl (n := 1) (by decide) Try.sizeOf9 rfl) ?_
    first | refine rv0 rfl rfl rfl (y_load ⟨Try.isAgg9, Try.sizeOf9⟩ rfl (by (repeat (first|exact zH _|apply zT));done) rfl) ?_ | refine rv0 rfl rfl rfl (y_load_slc ⟨Try.isAgg9, Try.sizeOf9⟩ rfl (by (repeat (first|exact zH _|apply zT));done) rfl) ?_
    refine rv0 rfl rfl rfl (y_call Try.call38 rfl (of_q op) (by (repeat (first|exact zN _|(apply zS;focus (repeat (first|exact zH _|apply zT))))))) ?_
    refine rv0 rfl rfl rfl (y_eql rfl rfl) ?_
    refine rj_nil ?_
    refine hK11 _ _ _ ?_
    refine cj_env (eL 2 rfl (eL 3 rfl (eL 4 rfl (eL 31 rfl eN)))) ?_
    refine cj_cond rfl (fun hc31 => ?_) (fun hc31 => ?_)
    ·have h5 : fam op = 5 := by simpa using hc31
     refine cj_seq (fun K13 hK13 => ?_)
     refine cj_region ?_
     refine rv0 rfl rfl rfl ((y_loads_all (vs := [.slice qc cols.length capc, .slice qr rows.length capr]) ⟨Try.isAgg81, Try.sizeOf81⟩ rfl rfl (by (repeat (first|exact zH _|apply zT));done))) ?_
     refine rv0 rfl rfl rfl ((y_loads_all (vs := exC op.str lit name (.slice q kids.length cap)) ⟨Try.isAgg29, Try.sizeOf29⟩ rfl rfl (by (repeat (first|exact zH _|apply zT));done))) ?_
     refine rj_callp (wn0 rfl) rfl Try.call59 rfl (groupV_p op lit name kids _ cols _ rows _ h5 hw hkx hc hr hro (group_snd hck hw h5 hkk hk0 hro hsd) (fun y cy row vr' hy hrep hrm hfr => hkid y hy _ [row] vr' cy hrep hfr (hro.one hrm) (group_kid hk0 hy) (fun _ => by simp))) (by (repeat (first|exact zN _|(apply zS;focus (repeat (first|exact zH _|apply zT)))))) (fun e hpe => ?_) (fun u7_2 hu7_2 => ?_)
     · refine hpan _ _ _ _ ?_; refine ej_pan _ ([]) (by first | exact Hp.le_refl _ | assumption | exact Hp.le_trans ‹_› ‹_›) rfl (by (repeat (first|exact zR _|(apply zP;focus (repeat (first|exact zH _|apply zT)))|apply zD|exact zA _ _))) ?_; have h7 := resV_err hpe; rw [evX] at h7; rw [hres] at h7; exact ⟨⟨e, by rw [h7]; rfl, rfl⟩, rfl⟩
     obtain ⟨v7, hv7, rfl⟩ := resV_ok hu7_2
     rw [evX] at hv7
     rw [hres] at hv7
     refine rj_stores_all (vs := valC (v7)) ⟨Try.isAgg26, Try.sizeOf26⟩ rfl (wn0 rfl) rfl rfl (valE.one (R := R) (x := v7) rfl) (by (repeat (first|exact zH _|apply zT));done) rfl ?_
     refine rj_nil ?_
     refine hK13 _ _ _ ?_
     refine cj_env (eL 4 rfl eN) ?_
     refine cj_ret ?_
     refine hret _ _ _ ?_
     apply ej_ret Try.results42 (.cons (rv_cells ⟨Try.isAgg26, Try.sizeOf26⟩ rfl (by (repeat (first|exact zH _|apply zT));done) rfl rfl) .nil) _ [] (by (first | exact Hp.le_refl _ | assumption | exact Hp.le_trans ‹_› ‹_›)) rfl
     case hp => exact ⟨by rw [hv7]; rfl, rfl⟩
     case hS => (repeat (first|exact zR _|(apply zP;focus (repeat (first|exact zH _|apply zT)))|apply zD|exact zA _ _))
    ·have h5 : ¬ fam op = 5 := by simpa using hc31
     have ncnt : ¬ op = .count := by rintro rfl; exact h5 rfl
     rw [if_neg nval, if_neg ncol, if_neg ncnt, if_neg h5] at hres
     have hsnd : ∀ ks, evL vstep gstep cols rows kids = .ok ks → ∀ u ∈ ks, sndV u := fun ks hl u hu => by obtain ⟨i, hi⟩ := List.mem_iff_getElem?.1 hu; obtain ⟨y, hy, hyu⟩ := evL_at hl hi; exact (hsd y (List.mem_of_getElem? hy) _ rows u hro (kindsX_kid hk0 hy).1 hyu).1
     refine cj_skip ?_
     refine hK10 _ _ _ ?_
     refine cj_seq (fun K14 hK14 => ?_)
     refine cj_region ?_
     refine rv0 rfl rfl rfl (y_assign rfl) ?_
     refine rj_add (A := slc 26 3 (.slice none 0 0) 0 (valsV [])) (slc_nil _ _) ?_
     refine rj_nil ?_
     refine hK14 _ _ _ ?_
     refine cj_seq (fun K15 hK15 => ?_)
     refine cj_seq (fun K16 hK16 => ?_)
     refine cj_region ?_
     refine rv0 rfl rfl rfl (y_fieldAddr (k := 5) Try.underlying29 rfl (n := 1) (by decide) Try.sizeOf27 rfl) ?_
     first | refine rv0 rfl rfl rfl (y_load ⟨Try.isAgg27, Try.sizeOf27⟩ rfl (by (repeat (first|exact zH _|apply zT));done) rfl) ?_ | refine rv0 rfl rfl rfl (y_load_slc ⟨Try.isAgg27, Try.sizeOf27⟩ rfl (by (repeat (first|exact zH _|apply zT));done) rfl) ?_
     first | refine rv0 rfl rfl rfl (y_len_sl Try.underlying27 rfl) ?_ | refine rv0 rfl rfl rfl (y_len_slc Try.underlying27 rfl (by (repeat (first|exact zH _|apply zT));done)) ?_
     refine rv0 rfl rfl rfl (y_move rfl) ?_
     refine rj_nil ?_
     refine hK16 _ _ _ ?_
     refine cj_block ?_
     refine cj_env (E' := (fun (x : Nat × Value × List Vl) => [(2, .pointer (some ⟨b2, 0, none⟩)), (3, .pointer (some ⟨b3, 0, none⟩)), (4, .pointer (some ⟨b4, 0, none⟩)), (5, x.2.1), (36, .slice q kids.length cap), (37, .int .i64 (kids.length : Int)), (38, .int .i64 (x.1 : Int))]) (0, .slice none 0 0, [])) (eC rfl (eC rfl (eC rfl (eC rfl (eC rfl (eC rfl (eC rfl eN))))))) ?_
     refine cj_sub (M := (fun (x : Nat × Value × List Vl) => slc 26 3 x.2.1 x.2.2.length (valsV x.2.2) :: blk b4 (valC Vl.zero) 26 :: blk b3 [.string (str op.str), .int .i64 lit.kind, .int .i64 lit.n, .string (str lit.s), .string (str name), .slice q kids.length cap] 29 :: blk b2 [.slice qc cols.length capc, .slice qr rows.length capr] 81 :: F) (0, .slice none 0 0, [])) (by (repeat (first|exact zR _|(apply zP;focus (repeat (first|exact zH _|apply zT)))|apply zD|exact zA _ _))) ?_
     refine cj_loop (fun (x : Nat × Value × List Vl) => [(2, .pointer (some ⟨b2, 0, none⟩)), (3, .pointer (some ⟨b3, 0, none⟩)), (4, .pointer (some ⟨b4, 0, none⟩)), (5, x.2.1), (36, .slice q kids.length cap), (37, .int .i64 (kids.length : Int)), (38, .int .i64 (x.1 : Int))]) (fun (x : Nat × Value × List Vl) => R) (fun (x : Nat × Value × List Vl) => slc 26 3 x.2.1 x.2.2.length (valsV x.2.2) :: blk b4 (valC Vl.zero) 26 :: blk b3 [.string (str op.str), .int .i64 lit.kind, .int .i64 lit.n, .string (str lit.s), .string (str name), .slice q kids.length cap] 29 :: blk b2 [.slice qc cols.length capc, .slice qr rows.length capr] 81 :: F) (fun (x : Nat × Value × List Vl) => x.1 ≤ kids.length ∧ x.2.1.oneCell' = true ∧ evL vstep gstep cols rows (kids.take x.1) = .ok x.2.2) (fun (x : Nat × Value × List Vl) => kids.length - x.1) (0, .slice none 0 0, []) (⟨by simp, rfl, by simp [evL]⟩) ?_
     rintro ⟨i, vl, ks⟩ ⟨hi, hvo, hev⟩
     try dsimp only
     dsimp only at hi hvo hev
     refine cj_seq (fun K17 hK17 => ?_)
     refine cj_region ?_
     refine rv0 rfl rfl rfl (y_lss rfl rfl) ?_
     refine rj_nil ?_
     refine hK17 _ _ _ ?_
     refine cj_seq (fun K18 hK18 => ?_)
     refine cj_cond rfl (fun hc39 => ?_) (fun hc39 => ?_)
     ·try simp only [dT, dF, nT, nF, tF, fT] at hc39
      refine cj_skip ?_
      refine hK18 _ _ _ ?_
      refine cj_seq (fun K20 hK20 => ?_)
      refine cj_block ?_
      refine cj_seq (fun K21 hK21 => ?_)
      refine cj_region ?_
      have hi2 : i < kids.length := by (try simp at hc39); omega
      obtain ⟨y, hy⟩ : ∃ x, kids[i]? = some x := ⟨kids[i]'(by omega), by simp⟩
      obtain ⟨b, off, cap', cy, he, hrep, hcl, hcell⟩ := hkx.at hy
      obtain ⟨rfl, rfl⟩ : q = some ⟨b, off, none⟩ ∧ cap = cap' := by cases he; exact ⟨rfl, rfl⟩
      have hym := List.mem_of_getElem? hy
      have hkl : ks.length = i := by have := evL_len hev; simp at this; omega
      first | refine rv0 rfl rfl rfl (y_indexAddr Try.underlying27 Try.sizeOf29 rfl rfl (by (first | omega | (dsimp only; omega) | (simp; done) | (simp; omega)))) ?_ | refine rv0 rfl rfl rfl (y_index_slc Try.underlying27 Try.sizeOf29 rfl rfl (by (repeat (first|exact zH _|apply zT));done) (by (first | omega | (dsimp only; omega) | (simp; done) | (simp; omega)))) ?_
      refine rv0 rfl rfl rfl ((y_loads_ro ⟨Try.isAgg29, Try.sizeOf29⟩ (vs := cy) hcl rfl (fun j u hj => hcell j u hj))) ?_
      refine rj_alloc (wn0 rfl) rfl Try.zeroValue29 rfl (fun b7 => ?_)
      refine rj_stores_all (vs := cy) ⟨Try.isAgg29, Try.sizeOf29⟩ hrep.len (wn0 rfl) rfl rfl hrep.one (by (repeat (first|exact zH _|apply zT));done) rfl ?_
      refine rj_nil ?_
      refine hK21 _ _ _ ?_
      refine cj_env (eL 2 rfl (eL 3 rfl (eL 4 rfl (eL 5 rfl (eL 7 rfl (eL 36 rfl (eL 37 rfl (eL 38 rfl eN)))))))) ?_
      refine cj_region ?_
      refine rv0 rfl rfl rfl (y_move rfl) ?_
      refine rv0 rfl rfl rfl ((y_loads_all (vs := [.slice qc cols.length capc, .slice qr rows.length capr]) ⟨Try.isAgg81, Try.sizeOf81⟩ rfl rfl (by (repeat (first|exact zH _|apply zT));done))) ?_
      refine rv0 rfl rfl rfl ((y_loads_all (vs := cy) ⟨Try.isAgg29, Try.sizeOf29⟩ hrep.len rfl (by (repeat (first|exact zH _|apply zT));done))) ?_
      refine rj_callp (wn0 rfl) rfl Try.call42 rfl (hkid y hym _ rows _ cy hrep hr hro (kindsX_kid hk0 hy).1 (fun h => hb (bare_kid h5 hym h))) (by (repeat (first|exact zN _|(apply zS;focus (repeat (first|exact zH _|apply zT)))))) (fun e hpe => ?_) (fun u12_3 hu12_3 => ?_)
      · refine hpan _ _ _ _ ?_; refine ej_pan _ ([]) (by first | exact Hp.le_refl _ | assumption | exact Hp.le_trans ‹_› ‹_›) rfl (by (repeat (first|exact zR _|(apply zP;focus (repeat (first|exact zH _|apply zT)))|apply zD|exact zA _ _))) ?_; have h12 := evL_err hev hy (resV_err hpe); rw [h12] at hres; exact ⟨⟨e, by rw [← hres]; rfl, rfl⟩, rfl⟩
      obtain ⟨v12, hv12, rfl⟩ := resV_ok hu12_3
      refine rj_buildSlice (sz := 3) (wn0 rfl) rfl Try.underlying43 Try.sizeOf26 Try.zeroValue26 rfl rfl rfl (by decide) (by decide) (fun bz => ?_)
      refine rj_append (sz := 3) (by_ := 32) ⟨Try.underlying43, _, _, rfl, rfl, rfl, rfl, rfl⟩ (wn0 rfl) rfl rfl rfl (by (repeat (first|exact zH _|apply zT));done) (src_slc (xs := valC v12) Try.underlying43 (by (repeat (first|exact zH _|apply zT));done) (valE.one (R := R) (x := v12) rfl)) rfl (by (first | omega | (dsimp only; omega) | (simp; done) | (simp; omega))) (by simp only [maxLen]; omega) (fun v47 ho47 hh47 => ?_)
      rw [valsV_snoc, show ks.length + 1 = (ks ++ [v12]).length by simp]
      refine rv0 rfl rfl rfl (y_assign rfl) ?_
      refine rj_nil ?_
      refine hK20 _ _ _ ?_
      refine cj_env (eL 2 rfl (eL 3 rfl (eL 4 rfl (eL 5 rfl (eL 36 rfl (eL 37 rfl (eL 38 rfl eN))))))) ?_
      refine cj_region ?_
      first | refine rv0 rfl rfl rfl (y_add64 rfl rfl (by (first | omega | (dsimp only; omega) | (simp; done) | (simp; omega)))) ?_ | refine rv0 rfl rfl rfl (y_add rfl rfl) ?_
      refine rv0 rfl rfl rfl (y_move rfl) ?_
      refine rj_nil ?_
      refine ej_on (q' := roundK _ _ _ _ _ _ _) rfl ?_
      refine ej_round ((i + 1, v47, ks ++ [v12])) (⟨by dsimp only; omega, by assumption, evL_snoc hev hy hv12⟩) (by dsimp only; omega) (eC rfl (eC rfl (eC rfl (eC rfl (eC rfl (eC rfl (eC rfl eN))))))) rfl (by (repeat (first|exact zR _|(apply zP;focus (repeat (first|exact zH _|apply zT)))|apply zD|exact zA _ _)))
     ·try simp only [dT, dF, nT, nF, tF, fT] at hc39
      refine cj_exit ?_
      refine hK15 _ _ _ ?_
      refine cj_env (eL 3 rfl (eL 4 rfl (eL 5 rfl eN))) ?_
      refine cj_seq (fun K22 hK22 => ?_)
      refine cj_region ?_
      obtain rfl : i = kids.length := by (try simp at hc39); omega
      rw [List.take_length] at hev
      rw [hev] at hres
      simp only at hres
      have hkl := (evL_len hev).trans har
      have hks := hsnd ks hev
      refine rj_freeze (e := 26) (sz := 3) (n := ks.length) (v := vl) (xs := valsV ks) (by (repeat (first|exact zH _|apply zT));done) (fun R2 hR2 hfr1 hxl => ?_)
      have hfv := valsFr hfr1
      refine rv0 rfl rfl rfl (y_move rfl) ?_
      refine rv0 rfl rfl rfl (y_call Try.call60 rfl (anyNull_q ks vl hfv) (by (repeat (first|exact zN _|(apply zS;focus (repeat (first|exact zH _|apply zT))))))) ?_
      refine rv0 rfl rfl rfl (y_assign rfl) ?_
      refine rj_nil ?_
      refine hK22 _ _ _ ?_
      refine cj_seq (fun K23 hK23 => ?_)
      refine cj_block ?_
      refine cj_seq (fun K24 hK24 => ?_)
      refine cj_region ?_
      refine rv0 rfl rfl rfl (y_fieldAddr (k := 0) Try.underlying29 rfl (n := 1) (by decide) Try.sizeOf9 rfl) ?_
      first | refine rv0 rfl rfl rfl (y_load ⟨Try.isAgg9, Try.sizeOf9⟩ rfl (by (repeat (first|exact zH _|apply zT));done) rfl) ?_ | refine rv0 rfl rfl rfl (y_load_slc ⟨Try.isAgg9, Try.sizeOf9⟩ rfl (by (repeat (first|exact zH _|apply zT));done) rfl) ?_
      refine rv0 rfl rfl rfl (y_seql rfl rfl) ?_
      refine rv0 rfl rfl rfl (y_assign rfl) ?_
      refine rj_nil ?_
      refine hK24 _ _ _ ?_
      refine cj_env (eL 3 rfl (eL 4 rfl (eL 5 rfl (eL 8 rfl (eL 51 rfl eN))))) ?_
      refine cj_cond rfl (fun hc51 => ?_) (fun hc51 => ?_)
      ·obtain rfl := Op.is hc51 rfl
       refine cj_seq (fun K26 hK26 => ?_)
       refine cj_region ?_
       refine rv0 rfl rfl rfl (y_move rfl) ?_
       refine rv0 rfl rfl rfl (y_call Try.call62 rfl (truth_q _) (by (repeat (first|exact zN _|(apply zS;focus (repeat (first|exact zH _|apply zT))))))) ?_
       refine rj_stores_all (vs := valC (truthV (anyNull ks))) ⟨Try.isAgg26, Try.sizeOf26⟩ rfl (wn0 rfl) rfl rfl (valE.one (R := R) (x := truthV (anyNull ks)) rfl) (by (repeat (first|exact zH _|apply zT));done) rfl ?_
       refine rj_nil ?_
       refine hK26 _ _ _ ?_
       refine cj_env (eL 4 rfl eN) ?_
       refine cj_ret ?_
       refine hret _ _ _ ?_
       apply ej_ret Try.results42 (.cons (rv_cells ⟨Try.isAgg26, Try.sizeOf26⟩ rfl (by (repeat (first|exact zH _|apply zT));done) rfl rfl) .nil) _ [] (by (first | exact Hp.le_refl _ | assumption | exact Hp.le_trans ‹_› ‹_›)) rfl
       case hp => exact ⟨by rw [← hres]; rfl, rfl⟩
       case hS => (repeat (first|exact zR _|(apply zP;focus (repeat (first|exact zH _|apply zT)))|apply zD|exact zA _ _))
      ·have nnul : ¬ op = .isnull := by rintro rfl; simp [Op.str] at hc51
       refine cj_seq (fun K27 hK27 => ?_)
       refine cj_region ?_
       refine rv0 rfl rfl rfl (y_fieldAddr (k := 0) Try.underlying29 rfl (n := 1) (by decide) Try.sizeOf9 rfl) ?_
       first | refine rv0 rfl rfl rfl (y_load ⟨Try.isAgg9, Try.sizeOf9⟩ rfl (by (repeat (first|exact zH _|apply zT));done) rfl) ?_ | refine rv0 rfl rfl rfl (y_load_slc ⟨Try.isAgg9, Try.sizeOf9⟩ rfl (by (repeat (first|exact zH _|apply zT));done) rfl) ?_
       refine rv0 rfl rfl rfl (y_seql rfl rfl) ?_
       refine rv0 rfl rfl rfl (y_move rfl) ?_
       refine rj_part 61 rfl (fun hg61 => ?_) (fun hg61 => ?_)
       ·obtain rfl := Op.is (op := op) (s := [111, 114]) (by simpa using hg61) rfl
        obtain ⟨k0, k1, rfl⟩ := len2 hkl
        refine rj_skip (wn2 rfl rfl rfl rfl rfl) rfl rfl ?_
        refine rj_skip (wn2 rfl rfl rfl rfl rfl) rfl rfl ?_
        refine rj_skip (wn2 rfl rfl rfl rfl rfl) rfl rfl ?_
        refine rv0 rfl rfl rfl (y_pick_t rfl rfl) ?_
        refine rv0 rfl rfl rfl (y_assign rfl) ?_
        refine rj_nil ?_
        refine hK27 _ _ _ ?_
        refine cj_env (eL 3 rfl (eL 4 rfl (eL 5 rfl (eL 8 rfl (eL 57 rfl eN))))) ?_
        refine cj_cond_t rfl ?_
        refine cj_seq (fun K28 hK28 => ?_)
        refine cj_region ?_
        refine rv0 rfl rfl rfl (y_fieldAddr (k := 0) Try.underlying29 rfl (n := 1) (by decide) Try.sizeOf9 rfl) ?_
        first | refine rv0 rfl rfl rfl (y_load ⟨Try.isAgg9, Try.sizeOf9⟩ rfl (by (repeat (first|exact zH _|apply zT));done) rfl) ?_ | refine rv0 rfl rfl rfl (y_load_slc ⟨Try.isAgg9, Try.sizeOf9⟩ rfl (by (repeat (first|exact zH _|apply zT));done) rfl) ?_
        refine rv0 rfl rfl rfl (y_move rfl) ?_
        refine rv0 rfl rfl rfl (y_call Try.call63 rfl (decides_q _ k0 k1 vl hfv) (by (repeat (first|exact zN _|(apply zS;focus (repeat (first|exact zH _|apply zT))))))) ?_
        first | refine rj_stores_all (vs := valC (decV (decide (Op.or = Op.or)) k0 k1)) ⟨Try.isAgg26, Try.sizeOf26⟩ rfl (wn0 rfl) rfl rfl (valE.one (R := R) (x := decV (decide (Op.or = Op.or)) k0 k1) rfl) (by (repeat (first|exact zH _|apply zT));done) rfl ?_ | refine rj_stores_all (vs := valC (decV (decide (Op.and = Op.or)) k0 k1)) ⟨Try.isAgg26, Try.sizeOf26⟩ rfl (wn0 rfl) rfl rfl (valE.one (R := R) (x := decV (decide (Op.and = Op.or)) k0 k1) rfl) (by (repeat (first|exact zH _|apply zT));done) rfl ?_
        refine rj_nil ?_
        refine hK28 _ _ _ ?_
        refine cj_env (eL 4 rfl eN) ?_
        refine cj_ret ?_
        refine hret _ _ _ ?_
        apply ej_ret Try.results42 (.cons (rv_cells ⟨Try.isAgg26, Try.sizeOf26⟩ rfl (by (repeat (first|exact zH _|apply zT));done) rfl rfl) .nil) _ [] (by (first | exact Hp.le_refl _ | assumption | exact Hp.le_trans ‹_› ‹_›)) rfl
        case hp => exact ⟨by rw [← hres]; rfl, rfl⟩
        case hS => (repeat (first|exact zR _|(apply zP;focus (repeat (first|exact zH _|apply zT)))|apply zD|exact zA _ _))
       ·have nor : ¬ op = .or := by rintro rfl; simp [Op.str] at hg61
        refine rj_val (wn1 rfl rfl rfl rfl) rfl rfl (y_fieldAddr (k := 0) Try.underlying29 rfl (n := 1) (by decide) Try.sizeOf9 rfl) ?_
        first | refine rj_val (wn1 rfl rfl rfl rfl) rfl rfl (y_load ⟨Try.isAgg9, Try.sizeOf9⟩ rfl (by (repeat (first|exact zH _|apply zT));done) rfl) ?_ | refine rj_val (wn1 rfl rfl rfl rfl) rfl rfl (y_load_slc ⟨Try.isAgg9, Try.sizeOf9⟩ rfl (by (repeat (first|exact zH _|apply zT));done) rfl) ?_
        refine rj_val (wn1 rfl rfl rfl rfl) rfl rfl (y_seql rfl rfl) ?_
        refine rv0 rfl rfl rfl (y_pick_f rfl rfl) ?_
        refine rv0 rfl rfl rfl (y_assign rfl) ?_
        refine rj_nil ?_
        refine hK27 _ _ _ ?_
        refine cj_env (eL 3 rfl (eL 4 rfl (eL 5 rfl (eL 8 rfl (eL 57 rfl eN))))) ?_
        refine cj_cond rfl (fun hc57 => ?_) (fun hc57 => ?_)
        ·obtain rfl := Op.is (op := op) (s := [97, 110, 100]) (by simpa using hc57) rfl
         obtain ⟨k0, k1, rfl⟩ := len2 hkl
         refine cj_seq (fun K30 hK30 => ?_)
         refine cj_region ?_
         refine rv0 rfl rfl rfl (y_fieldAddr (k := 0) Try.underlying29 rfl (n := 1) (by decide) Try.sizeOf9 rfl) ?_
         first | refine rv0 rfl rfl rfl (y_load ⟨Try.isAgg9, Try.sizeOf9⟩ rfl (by (repeat (first|exact zH _|apply zT));done) rfl) ?_ | refine rv0 rfl rfl rfl (y_load_slc ⟨Try.isAgg9, Try.sizeOf9⟩ rfl (by (repeat (first|exact zH _|apply zT));done) rfl) ?_
         refine rv0 rfl rfl rfl (y_move rfl) ?_
         refine rv0 rfl rfl rfl (y_call Try.call63 rfl (decides_q _ k0 k1 vl hfv) (by (repeat (first|exact zN _|(apply zS;focus (repeat (first|exact zH _|apply zT))))))) ?_
         first | refine rj_stores_all (vs := valC (decV (decide (Op.or = Op.or)) k0 k1)) ⟨Try.isAgg26, Try.sizeOf26⟩ rfl (wn0 rfl) rfl rfl (valE.one (R := R) (x := decV (decide (Op.or = Op.or)) k0 k1) rfl) (by (repeat (first|exact zH _|apply zT));done) rfl ?_ | refine rj_stores_all (vs := valC (decV (decide (Op.and = Op.or)) k0 k1)) ⟨Try.isAgg26, Try.sizeOf26⟩ rfl (wn0 rfl) rfl rfl (valE.one (R := R) (x := decV (decide (Op.and = Op.or)) k0 k1) rfl) (by (repeat (first|exact zH _|apply zT));done) rfl ?_
         refine rj_nil ?_
         refine hK30 _ _ _ ?_
         refine cj_env (eL 4 rfl eN) ?_
         refine cj_ret ?_
         refine hret _ _ _ ?_
         apply ej_ret Try.results42 (.cons (rv_cells ⟨Try.isAgg26, Try.sizeOf26⟩ rfl (by (repeat (first|exact zH _|apply zT));done) rfl rfl) .nil) _ [] (by (first | exact Hp.le_refl _ | assumption | exact Hp.le_trans ‹_› ‹_›)) rfl
         case hp => exact ⟨by rw [← hres]; rfl, rfl⟩
         case hS => (repeat (first|exact zR _|(apply zP;focus (repeat (first|exact zH _|apply zT)))|apply zD|exact zA _ _))
        ·have nand : ¬ op = .and := by rintro rfl; simp [Op.str] at hc57
         refine cj_seq (fun K31 hK31 => ?_)
         refine cj_region ?_
         refine rv0 rfl rfl rfl (y_move rfl) ?_
         refine rv0 rfl rfl rfl (y_assign rfl) ?_
         refine rj_nil ?_
         refine hK31 _ _ _ ?_
         refine cj_env (eL 3 rfl (eL 4 rfl (eL 5 rfl (eL 70 rfl eN)))) ?_
         refine cj_cond rfl (fun hc70 => ?_) (fun hc70 => ?_)
         ·have hnul : anyNull ks = true := hc70
          refine cj_seq (fun K33 hK33 => ?_)
          refine cj_region ?_
          refine rv0 rfl rfl rfl (y_build (cells := [_, _, _]) [(0, 1), (1, 1), (2, 1)] Try.underlying26 Try.zeroValue26 (fun _ => rfl) rfl rfl) ?_
          refine rj_stores_all (vs := valC (Vl.zero)) ⟨Try.isAgg26, Try.sizeOf26⟩ rfl (wn0 rfl) rfl rfl (valE.one (R := R) (x := Vl.zero) rfl) (by (repeat (first|exact zH _|apply zT));done) rfl ?_
          refine rj_nil ?_
          refine hK33 _ _ _ ?_
          refine cj_env (eL 4 rfl eN) ?_
          refine cj_ret ?_
          refine hret _ _ _ ?_
          apply ej_ret Try.results42 (.cons (rv_cells ⟨Try.isAgg26, Try.sizeOf26⟩ rfl (by (repeat (first|exact zH _|apply zT));done) rfl rfl) .nil) _ [] (by (first | exact Hp.le_refl _ | assumption | exact Hp.le_trans ‹_› ‹_›)) rfl
          case hp => exact ⟨by rw [← hres]; unfold vstep; dsimp only; rw [if_neg nnul, if_neg (by simp [nor, nand]), if_pos hnul]; rfl, rfl⟩
          case hS => (repeat (first|exact zR _|(apply zP;focus (repeat (first|exact zH _|apply zT)))|apply zD|exact zA _ _))
         ·have hnn : ¬ anyNull ks = true := by simpa using hc70
          refine cj_seq (fun K34 hK34 => ?_)
          refine cj_region ?_
          refine rv0 rfl rfl rfl (y_fieldAddr (k := 0) Try.underlying29 rfl (n := 1) (by decide) Try.sizeOf9 rfl) ?_
          first | refine rv0 rfl rfl rfl (y_load ⟨Try.isAgg9, Try.sizeOf9⟩ rfl (by (repeat (first|exact zH _|apply zT));done) rfl) ?_ | refine rv0 rfl rfl rfl (y_load_slc ⟨Try.isAgg9, Try.sizeOf9⟩ rfl (by (repeat (first|exact zH _|apply zT));done) rfl) ?_
          refine rv0 rfl rfl rfl (y_seql rfl rfl) ?_
          refine rv0 rfl rfl rfl (y_assign rfl) ?_
          refine rj_nil ?_
          refine hK34 _ _ _ ?_
          refine cj_env (eL 3 rfl (eL 4 rfl (eL 5 rfl (eL 73 rfl eN)))) ?_
          refine cj_cond rfl (fun hc73 => ?_) (fun hc73 => ?_)
          ·obtain rfl := Op.is hc73 rfl
           obtain ⟨k0, rfl⟩ := List.length_eq_one_iff.1 hkl
           obtain ⟨bk, ok, ck, cs0, rfl, rfl, _, hcell0⟩ := hfv.at (i := 0) (x := k0) rfl
           refine cj_seq (fun K36 hK36 => ?_)
           refine cj_region ?_
           refine rv0 rfl rfl rfl (y_move rfl) ?_
           first | refine rv0 rfl rfl rfl (y_indexAddr Try.underlying43 Try.sizeOf26 rfl rfl (by (first | omega | (dsimp only; omega) | (simp; done) | (simp; omega)))) ?_ | refine rv0 rfl rfl rfl (y_index_slc Try.underlying43 Try.sizeOf26 rfl rfl (by (repeat (first|exact zH _|apply zT));done) (by (first | omega | (dsimp only; omega) | (simp; done) | (simp; omega)))) ?_
           refine rv0 rfl rfl rfl ((y_loads_ro ⟨Try.isAgg26, Try.sizeOf26⟩ (vs := valC k0) rfl rfl (fun j u hj => hcell0 j u hj))) ?_
           refine rv0 rfl rfl rfl (y_call Try.call26 rfl (true_q k0) (by (repeat (first|exact zN _|(apply zS;focus (repeat (first|exact zH _|apply zT))))))) ?_
           refine rv0 rfl rfl rfl (y_not rfl) ?_
           refine rv0 rfl rfl rfl (y_call Try.call62 rfl (truth_q _) (by (repeat (first|exact zN _|(apply zS;focus (repeat (first|exact zH _|apply zT))))))) ?_
           refine rj_stores_all (vs := valC (truthV (!trueV k0))) ⟨Try.isAgg26, Try.sizeOf26⟩ rfl (wn0 rfl) rfl rfl (valE.one (R := R) (x := truthV (!trueV k0)) rfl) (by (repeat (first|exact zH _|apply zT));done) rfl ?_
           refine rj_nil ?_
           refine hK36 _ _ _ ?_
           refine cj_env (eL 4 rfl eN) ?_
           refine cj_ret ?_
           refine hret _ _ _ ?_
           apply ej_ret Try.results42 (.cons (rv_cells ⟨Try.isAgg26, Try.sizeOf26⟩ rfl (by (repeat (first|exact zH _|apply zT));done) rfl rfl) .nil) _ [] (by (first | exact Hp.le_refl _ | assumption | exact Hp.le_trans ‹_› ‹_›)) rfl
           case hp => exact ⟨by rw [← hres]; unfold vstep; dsimp only; rw [if_neg nnul, if_neg (by simp), if_neg hnn, if_pos rfl]; rfl, rfl⟩
           case hS => (repeat (first|exact zR _|(apply zP;focus (repeat (first|exact zH _|apply zT)))|apply zD|exact zA _ _))
          ·have nnot : ¬ op = .not := by rintro rfl; simp [Op.str] at hc73
           refine cj_seq (fun K37 hK37 => ?_)
           refine cj_region ?_
           refine rv0 rfl rfl rfl (y_fieldAddr (k := 0) Try.underlying29 rfl (n := 1) (by decide) Try.sizeOf9 rfl) ?_
           first | refine rv0 rfl rfl rfl (y_load ⟨Try.isAgg9, Try.sizeOf9⟩ rfl (by (repeat (first|exact zH _|apply zT));done) rfl) ?_ | refine rv0 rfl rfl rfl (y_load_slc ⟨Try.isAgg9, Try.sizeOf9⟩ rfl (by (repeat (first|exact zH _|apply zT));done) rfl) ?_
           refine rv0 rfl rfl rfl (y_seql rfl rfl) ?_
           refine rv0 rfl rfl rfl (y_assign rfl) ?_
           refine rj_nil ?_
           refine hK37 _ _ _ ?_
           refine cj_env (eL 3 rfl (eL 4 rfl (eL 5 rfl (eL 83 rfl eN)))) ?_
           refine cj_cond rfl (fun hc83 => ?_) (fun hc83 => ?_)
           ·obtain rfl := Op.is hc83 rfl
            obtain ⟨k0, rfl⟩ := List.length_eq_one_iff.1 hkl
            obtain ⟨bk, ok, ck, cs0, rfl, rfl, _, hcell0⟩ := hfv.at (i := 0) (x := k0) rfl
            have hst : vstep .neg [k0] = numV (num64 (0 - k0.n)) := by unfold vstep; dsimp only; rw [if_neg nnul, if_neg (by simp), if_neg hnn, if_neg (by decide), if_pos rfl]; rfl
            rw [hst] at hres
            refine cj_seq (fun K39 hK39 => ?_)
            refine cj_region ?_
            refine rv0 rfl rfl rfl (y_move rfl) ?_
            first | refine rv0 rfl rfl rfl (y_indexAddr Try.underlying43 Try.sizeOf26 rfl rfl (by (first | omega | (dsimp only; omega) | (simp; done) | (simp; omega)))) ?_ | refine rv0 rfl rfl rfl (y_index_slc Try.underlying43 Try.sizeOf26 rfl rfl (by (repeat (first|exact zH _|apply zT));done) (by (first | omega | (dsimp only; omega) | (simp; done) | (simp; omega)))) ?_
            refine rv0 rfl rfl rfl (y_fieldAddr (k := 1) Try.underlying26 rfl (n := 1) (by decide) Try.sizeOf2 rfl) ?_
            refine rv0 rfl rfl rfl ((y_load_ro ⟨Try.isAgg2, Try.sizeOf2⟩ rfl (hcell0 1 (.int .i64 k0.n) rfl))) ?_
            refine rj_callp (wn0 rfl) rfl Try.call65 rfl (minus_p 0 k0.n (by decide) (hks k0 (by simp)).2) (by (repeat (first|exact zN _|(apply zS;focus (repeat (first|exact zH _|apply zT)))))) (fun e hpe => ?_) (fun u24_4 hu24_4 => ?_)
            · refine hpan _ _ _ _ ?_; refine ej_pan _ ([]) (by first | exact Hp.le_refl _ | assumption | exact Hp.le_trans ‹_› ‹_›) rfl (by (repeat (first|exact zR _|(apply zP;focus (repeat (first|exact zH _|apply zT)))|apply zD|exact zA _ _))) ?_; rw [intV_err hpe] at hres; exact ⟨⟨e, by rw [← hres]; rfl, rfl⟩, rfl⟩
            obtain ⟨n24, hn24, rfl⟩ := intV_ok hu24_4
            rw [hn24] at hres
            refine rv0 rfl rfl rfl (y_call Try.call64 rfl (number_q _) (by (repeat (first|exact zN _|(apply zS;focus (repeat (first|exact zH _|apply zT))))))) ?_
            refine rj_stores_all (vs := valC (⟨1, n24, []⟩)) ⟨Try.isAgg26, Try.sizeOf26⟩ rfl (wn0 rfl) rfl rfl (valE.one (R := R) (x := ⟨1, n24, []⟩) rfl) (by (repeat (first|exact zH _|apply zT));done) rfl ?_
            refine rj_nil ?_
            refine hK39 _ _ _ ?_
            refine cj_env (eL 4 rfl eN) ?_
            refine cj_ret ?_
            refine hret _ _ _ ?_
            apply ej_ret Try.results42 (.cons (rv_cells ⟨Try.isAgg26, Try.sizeOf26⟩ rfl (by (repeat (first|exact zH _|apply zT));done) rfl rfl) .nil) _ [] (by (first | exact Hp.le_refl _ | assumption | exact Hp.le_trans ‹_› ‹_›)) rfl
            case hp => exact ⟨by rw [← hres]; rfl, rfl⟩
            case hS => (repeat (first|exact zR _|(apply zP;focus (repeat (first|exact zH _|apply zT)))|apply zD|exact zA _ _))
           ·have nneg : ¬ op = .neg := by rintro rfl; simp [Op.str] at hc83
            refine cj_seq (fun K40 hK40 => ?_)
            refine cj_region ?_
            refine rv0 rfl rfl rfl (y_fieldAddr (k := 0) Try.underlying29 rfl (n := 1) (by decide) Try.sizeOf9 rfl) ?_
            first | refine rv0 rfl rfl rfl (y_load ⟨Try.isAgg9, Try.sizeOf9⟩ rfl (by (repeat (first|exact zH _|apply zT));done) rfl) ?_ | refine rv0 rfl rfl rfl (y_load_slc ⟨Try.isAgg9, Try.sizeOf9⟩ rfl (by (repeat (first|exact zH _|apply zT));done) rfl) ?_
            refine rv0 rfl rfl rfl (y_seql rfl rfl) ?_
            refine rv0 rfl rfl rfl (y_assign rfl) ?_
            refine rj_nil ?_
            refine hK40 _ _ _ ?_
            refine cj_env (eL 3 rfl (eL 4 rfl (eL 5 rfl (eL 93 rfl eN)))) ?_
            refine cj_cond rfl (fun hc93 => ?_) (fun hc93 => ?_)
            ·obtain rfl := Op.is hc93 rfl
             obtain ⟨k0, k1, rfl⟩ := len2 hkl
             obtain ⟨bk, ok, ck, cs0, rfl, rfl, _, hcell0⟩ := hfv.at (i := 0) (x := k0) rfl
             obtain ⟨bk2, ok2, ck2, cs1, he2, rfl, _, hcell1⟩ := hfv.at (i := 1) (x := k1) rfl
             obtain ⟨rfl, rfl⟩ : bk = bk2 ∧ ok = ok2 := by cases he2; exact ⟨rfl, rfl⟩
             have hst : vstep .cat [k0, k1] = (if k0.s.length + k1.s.length ≤ 200 then .ok ⟨2, 0, k0.s ++ k1.s⟩ else .error 28) := by unfold vstep; dsimp only; rw [if_neg nnul, if_neg (by simp), if_neg hnn, if_neg (by decide), if_neg (by decide), if_pos rfl]; rfl
             rw [hst] at hres
             have hl0 := (hks k0 (by simp)).len
             have hl1 := (hks k1 (by simp)).len
             refine cj_seq (fun K42 hK42 => ?_)
             refine cj_mixs [0, 1, 2, 3, 4, 5, 6, 7, 8, 9, 10, 11] [] [12] [] panX_ok (by rw [List.append_nil]; exact .refl _) (by kernel_rfl) (by kernel_rfl) (by kernel_rfl) rfl ?_
             refine fj_val rfl rfl rfl (wn0 rfl) (fun R1 hR1 G => (y_move rfl)) ?_
             first | refine fj_val rfl rfl rfl (wn0 rfl) (fun R1 hR1 G => (y_indexAddr Try.underlying43 Try.sizeOf26 rfl rfl (by (first | omega | (dsimp only; omega) | (simp; done) | (simp; omega))))) ?_ | refine fj_val rfl rfl rfl (wn0 rfl) (fun R1 hR1 G => (y_index_slc Try.underlying43 Try.sizeOf26 rfl rfl (by (repeat (first|exact zH _|apply zT));done) (by (first | omega | (dsimp only; omega) | (simp; done) | (simp; omega))))) ?_
             refine fj_val rfl rfl rfl (wn0 rfl) (fun R1 hR1 G => (y_fieldAddr (k := 2) Try.underlying26 rfl (n := 1) (by decide) Try.sizeOf9 rfl)) ?_
             refine fj_val rfl rfl rfl (wn0 rfl) (fun R1 hR1 G => (y_load_ro ⟨Try.isAgg9, Try.sizeOf9⟩ rfl (cell_mono hR1 (hcell0 2 (.string (str k0.s)) rfl)))) ?_
             refine fj_val rfl rfl rfl (wn0 rfl) (fun R1 hR1 G => (y_slen Try.underlying9 rfl)) ?_
             refine fj_val rfl rfl rfl (wn0 rfl) (fun R1 hR1 G => (y_move rfl)) ?_
             first | refine fj_val rfl rfl rfl (wn0 rfl) (fun R1 hR1 G => (y_indexAddr Try.underlying43 Try.sizeOf26 rfl rfl (by (first | omega | (dsimp only; omega) | (simp; done) | (simp; omega))))) ?_ | refine fj_val rfl rfl rfl (wn0 rfl) (fun R1 hR1 G => (y_index_slc Try.underlying43 Try.sizeOf26 rfl rfl (by (repeat (first|exact zH _|apply zT));done) (by (first | omega | (dsimp only; omega) | (simp; done) | (simp; omega))))) ?_
             refine fj_val rfl rfl rfl (wn0 rfl) (fun R1 hR1 G => (y_fieldAddr (k := 2) Try.underlying26 rfl (n := 1) (by decide) Try.sizeOf9 rfl)) ?_
             refine fj_val rfl rfl rfl (wn0 rfl) (fun R1 hR1 G => (y_load_ro ⟨Try.isAgg9, Try.sizeOf9⟩ rfl (cell_mono hR1 (hcell1 2 (.string (str k1.s)) rfl)))) ?_
             refine fj_val rfl rfl rfl (wn0 rfl) (fun R1 hR1 G => (y_slen Try.underlying9 rfl)) ?_
             first | refine fj_val rfl rfl rfl (wn0 rfl) (fun R1 hR1 G => (y_add64 rfl rfl (by (first | omega | (dsimp only; omega) | (simp; done) | (simp; omega))))) ?_ | refine fj_val rfl rfl rfl (wn0 rfl) (fun R1 hR1 G => (y_add rfl rfl)) ?_
             refine fj_val rfl rfl rfl (wn0 rfl) (fun R1 hR1 G => (y_leq rfl rfl)) ?_
             refine fj_nil ?_
             refine xs_nil ?_
             try simp only [List.cons_append, List.nil_append, List.append_nil]
             refine rj_callp (wn0 rfl) rfl Try.call66 rfl (must_p _ 28) (by (repeat (first|exact zN _|(apply zS;focus (repeat (first|exact zH _|apply zT)))))) (fun e hpe => ?_) (fun u26_12 hu26_12 => ?_)
             · refine hpan _ _ _ _ ?_; refine ej_pan _ ([]) (by first | exact Hp.le_refl _ | assumption | exact Hp.le_trans ‹_› ‹_›) rfl (by (repeat (first|exact zR _|(apply zP;focus (repeat (first|exact zH _|apply zT)))|apply zD|exact zA _ _))) ?_; obtain ⟨h1, rfl⟩ := must_err hpe; rw [if_neg (by simp at h1; omega)] at hres; exact ⟨⟨28, by rw [← hres]; rfl, rfl⟩, rfl⟩
             have h26 := must_ok hu26_12
             rw [if_pos (by simp at h26; omega)] at hres
             refine rj_nil ?_
             refine hK42 _ _ _ ?_
             refine cj_env (eL 4 rfl (eL 5 rfl eN)) ?_
             refine cj_seq (fun K43 hK43 => ?_)
             refine cj_mix [0, 1, 2, 3, 4, 5, 6, 7, 8, 9] [] [10] (by kernel_rfl) (by kernel_rfl) (by kernel_rfl) rfl ?_
             refine fj_val rfl rfl rfl (wn0 rfl) (fun R1 hR1 G => (y_move rfl)) ?_
             first | refine fj_val rfl rfl rfl (wn0 rfl) (fun R1 hR1 G => (y_indexAddr Try.underlying43 Try.sizeOf26 rfl rfl (by (first | omega | (dsimp only; omega) | (simp; done) | (simp; omega))))) ?_ | refine fj_val rfl rfl rfl (wn0 rfl) (fun R1 hR1 G => (y_index_slc Try.underlying43 Try.sizeOf26 rfl rfl (by (repeat (first|exact zH _|apply zT));done) (by (first | omega | (dsimp only; omega) | (simp; done) | (simp; omega))))) ?_
             refine fj_val rfl rfl rfl (wn0 rfl) (fun R1 hR1 G => (y_fieldAddr (k := 2) Try.underlying26 rfl (n := 1) (by decide) Try.sizeOf9 rfl)) ?_
             refine fj_val rfl rfl rfl (wn0 rfl) (fun R1 hR1 G => (y_load_ro ⟨Try.isAgg9, Try.sizeOf9⟩ rfl (cell_mono hR1 (hcell0 2 (.string (str k0.s)) rfl)))) ?_
             refine fj_val rfl rfl rfl (wn0 rfl) (fun R1 hR1 G => (y_move rfl)) ?_
             first | refine fj_val rfl rfl rfl (wn0 rfl) (fun R1 hR1 G => (y_indexAddr Try.underlying43 Try.sizeOf26 rfl rfl (by (first | omega | (dsimp only; omega) | (simp; done) | (simp; omega))))) ?_ | refine fj_val rfl rfl rfl (wn0 rfl) (fun R1 hR1 G => (y_index_slc Try.underlying43 Try.sizeOf26 rfl rfl (by (repeat (first|exact zH _|apply zT));done) (by (first | omega | (dsimp only; omega) | (simp; done) | (simp; omega))))) ?_
             refine fj_val rfl rfl rfl (wn0 rfl) (fun R1 hR1 G => (y_fieldAddr (k := 2) Try.underlying26 rfl (n := 1) (by decide) Try.sizeOf9 rfl)) ?_
             refine fj_val rfl rfl rfl (wn0 rfl) (fun R1 hR1 G => (y_load_ro ⟨Try.isAgg9, Try.sizeOf9⟩ rfl (cell_mono hR1 (hcell1 2 (.string (str k1.s)) rfl)))) ?_
             refine fj_val rfl rfl rfl (wn0 rfl) (fun R1 hR1 G => (y_sadd rfl rfl (by omega))) ?_
             refine fj_val rfl rfl rfl (wn0 rfl) (fun R1 hR1 G => (y_build (cells := [_, _, _]) [(0, 1), (1, 1), (2, 1)] Try.underlying26 Try.zeroValue26 (fun _ => rfl) rfl rfl)) ?_
             refine fj_nil ?_
             refine xj_nil ?_
             try simp only [List.cons_append, List.nil_append, List.append_nil]
             refine rj_stores_all (vs := valC (⟨2, 0, k0.s ++ k1.s⟩)) ⟨Try.isAgg26, Try.sizeOf26⟩ rfl (wn0 rfl) rfl rfl (valE.one (R := R) (x := ⟨2, 0, k0.s ++ k1.s⟩) rfl) (by (repeat (first|exact zH _|apply zT));done) rfl ?_
             refine rj_nil ?_
             refine hK43 _ _ _ ?_
             refine cj_env (eL 4 rfl eN) ?_
             refine cj_ret ?_
             refine hret _ _ _ ?_
             apply ej_ret Try.results42 (.cons (rv_cells ⟨Try.isAgg26, Try.sizeOf26⟩ rfl (by (repeat (first|exact zH _|apply zT));done) rfl rfl) .nil) _ [] (by (first | exact Hp.le_refl _ | assumption | exact Hp.le_trans ‹_› ‹_›)) rfl
             case hp => exact ⟨by rw [← hres]; rfl, rfl⟩
             case hS => (repeat (first|exact zR _|(apply zP;focus (repeat (first|exact zH _|apply zT)))|apply zD|exact zA _ _))
            ·have ncat : ¬ op = .cat := by rintro rfl; simp [Op.str] at hc93
             refine cj_seq (fun K44 hK44 => ?_)
             refine cj_region ?_
             refine rv0 rfl rfl rfl (y_fieldAddr (k := 0) Try.underlying29 rfl (n := 1) (by decide) Try.sizeOf9 rfl) ?_
             first | refine rv0 rfl rfl rfl (y_load ⟨Try.isAgg9, Try.sizeOf9⟩ rfl (by (repeat (first|exact zH _|apply zT));done) rfl) ?_ | refine rv0 rfl rfl rfl (y_load_slc ⟨Try.isAgg9, Try.sizeOf9⟩ rfl (by (repeat (first|exact zH _|apply zT));done) rfl) ?_
             refine rv0 rfl rfl rfl (y_call Try.call38 rfl (of_q op) (by (repeat (first|exact zN _|(apply zS;focus (repeat (first|exact zH _|apply zT))))))) ?_
             refine rv0 rfl rfl rfl (y_eql rfl rfl) ?_
             refine rv0 rfl rfl rfl (y_assign rfl) ?_
             refine rj_nil ?_
             refine hK44 _ _ _ ?_
             refine cj_env (eL 3 rfl (eL 4 rfl (eL 5 rfl (eL 120 rfl eN)))) ?_
             refine cj_cond rfl (fun hc120 => ?_) (fun hc120 => ?_)
             ·have h2 : fam op = 2 := by simpa using hc120
              have har2 : arity op = 2 := by cases op <;> first | rfl | (revert h2; decide)
              obtain ⟨k0, k1, rfl⟩ := len2 (hkl.trans har2)
              obtain ⟨bk, ok, ck, cs0, rfl, rfl, _, hcell0⟩ := hfv.at (i := 0) (x := k0) rfl
              obtain ⟨bk2, ok2, ck2, cs1, he2, rfl, _, hcell1⟩ := hfv.at (i := 1) (x := k1) rfl
              obtain ⟨rfl, rfl⟩ : bk = bk2 ∧ ok = ok2 := by cases he2; exact ⟨rfl, rfl⟩
              have hst : vstep op [k0, k1] = .ok (truthV (cmpB op (cmpV k0 k1))) := by unfold vstep; dsimp only; rw [if_neg nnul, if_neg (by simp [nor, nand]), if_neg hnn, if_neg nnot, if_neg nneg, if_neg ncat, if_pos h2]; rfl
              rw [hst] at hres
              refine cj_seq (fun K46 hK46 => ?_)
              refine cj_mix [0, 1, 2, 3, 4, 5, 6, 7, 8, 9, 10] [] [11] (by kernel_rfl) (by kernel_rfl) (by kernel_rfl) rfl ?_
              refine fj_val rfl rfl rfl (wn0 rfl) (fun R1 hR1 G => (y_fieldAddr (k := 0) Try.underlying29 rfl (n := 1) (by decide) Try.sizeOf9 rfl)) ?_
              first | refine fj_val rfl rfl rfl (wn0 rfl) (fun R1 hR1 G => (y_load ⟨Try.isAgg9, Try.sizeOf9⟩ rfl (by (repeat (first|exact zH _|apply zT));done) rfl)) ?_ | refine fj_val rfl rfl rfl (wn0 rfl) (fun R1 hR1 G => (y_load_slc ⟨Try.isAgg9, Try.sizeOf9⟩ rfl (by (repeat (first|exact zH _|apply zT));done) rfl)) ?_
              refine fj_val rfl rfl rfl (wn0 rfl) (fun R1 hR1 G => (y_move rfl)) ?_
              first | refine fj_val rfl rfl rfl (wn0 rfl) (fun R1 hR1 G => (y_indexAddr Try.underlying43 Try.sizeOf26 rfl rfl (by (first | omega | (dsimp only; omega) | (simp; done) | (simp; omega))))) ?_ | refine fj_val rfl rfl rfl (wn0 rfl) (fun R1 hR1 G => (y_index_slc Try.underlying43 Try.sizeOf26 rfl rfl (by (repeat (first|exact zH _|apply zT));done) (by (first | omega | (dsimp only; omega) | (simp; done) | (simp; omega))))) ?_
              refine fj_val rfl rfl rfl (wn0 rfl) (fun R1 hR1 G => (y_loads_ro ⟨Try.isAgg26, Try.sizeOf26⟩ (vs := valC k0) rfl rfl (fun j u hj => cell_mono hR1 (hcell0 j u hj)))) ?_
              refine fj_val rfl rfl rfl (wn0 rfl) (fun R1 hR1 G => (y_move rfl)) ?_
              first | refine fj_val rfl rfl rfl (wn0 rfl) (fun R1 hR1 G => (y_indexAddr Try.underlying43 Try.sizeOf26 rfl rfl (by (first | omega | (dsimp only; omega) | (simp; done) | (simp; omega))))) ?_ | refine fj_val rfl rfl rfl (wn0 rfl) (fun R1 hR1 G => (y_index_slc Try.underlying43 Try.sizeOf26 rfl rfl (by (repeat (first|exact zH _|apply zT));done) (by (first | omega | (dsimp only; omega) | (simp; done) | (simp; omega))))) ?_
              refine fj_val rfl rfl rfl (wn0 rfl) (fun R1 hR1 G => (y_loads_ro ⟨Try.isAgg26, Try.sizeOf26⟩ (vs := valC k1) rfl rfl (fun j u hj => cell_mono hR1 (hcell1 j u hj)))) ?_
              refine fj_val rfl rfl rfl (wn0 rfl) (fun R1 hR1 G => (y_call Try.call24 rfl (compare_q k0 k1) (by (repeat (first|exact zN _|(apply zS;focus (repeat (first|exact zH _|apply zT)))))))) ?_
              refine fj_val rfl rfl rfl (wn0 rfl) (fun R1 hR1 G => (y_call Try.call67 rfl (compares_q op _) (by (repeat (first|exact zN _|(apply zS;focus (repeat (first|exact zH _|apply zT)))))))) ?_
              refine fj_val rfl rfl rfl (wn0 rfl) (fun R1 hR1 G => (y_call Try.call62 rfl (truth_q _) (by (repeat (first|exact zN _|(apply zS;focus (repeat (first|exact zH _|apply zT)))))))) ?_
              refine fj_nil ?_
              refine xj_nil ?_
              try simp only [List.cons_append, List.nil_append, List.append_nil]
              refine rj_stores_all (vs := valC (truthV (cmpB op (cmpV k0 k1)))) ⟨Try.isAgg26, Try.sizeOf26⟩ rfl (wn0 rfl) rfl rfl (valE.one (R := R) (x := truthV (cmpB op (cmpV k0 k1))) rfl) (by (repeat (first|exact zH _|apply zT));done) rfl ?_
              refine rj_nil ?_
              refine hK46 _ _ _ ?_
              refine cj_env (eL 4 rfl eN) ?_
              refine cj_ret ?_
              refine hret _ _ _ ?_
              apply ej_ret Try.results42 (.cons (rv_cells ⟨Try.isAgg26, Try.sizeOf26⟩ rfl (by (repeat (first|exact zH _|apply zT));done) rfl rfl) .nil) _ [] (by (first | exact Hp.le_refl _ | assumption | exact Hp.le_trans ‹_› ‹_›)) rfl
              case hp => exact ⟨by rw [← hres]; rfl, rfl⟩
              case hS => (repeat (first|exact zR _|(apply zP;focus (repeat (first|exact zH _|apply zT)))|apply zD|exact zA _ _))
             ·have h2 : ¬ fam op = 2 := by simpa using hc120
              have har2 : arity op = 2 := by cases op <;> first | rfl | exact absurd rfl nval | exact absurd rfl ncol | exact absurd rfl h5 | exact absurd rfl nnul | exact absurd rfl nnot | exact absurd rfl nneg
              obtain ⟨k0, k1, rfl⟩ := len2 (hkl.trans har2)
              obtain ⟨bk, ok, ck, cs0, rfl, rfl, _, hcell0⟩ := hfv.at (i := 0) (x := k0) rfl
              obtain ⟨bk2, ok2, ck2, cs1, he2, rfl, _, hcell1⟩ := hfv.at (i := 1) (x := k1) rfl
              obtain ⟨rfl, rfl⟩ : bk = bk2 ∧ ok = ok2 := by cases he2; exact ⟨rfl, rfl⟩
              have hst : vstep op [k0, k1] = numV (reckV op k0.n k1.n) := by unfold vstep; dsimp only; rw [if_neg nnul, if_neg (by simp [nor, nand]), if_neg hnn, if_neg nnot, if_neg nneg, if_neg ncat, if_neg h2]; rfl
              rw [hst] at hres
              refine cj_skip ?_
              refine hK23 _ _ _ ?_
              refine cj_seq (fun K47 hK47 => ?_)
              refine cj_mixs [0, 1, 2, 3, 4, 5, 6, 7, 8, 9] [] [10, 11, 12] [] panX_ok (by rw [List.append_nil]; exact .refl _) (by kernel_rfl) (by kernel_rfl) (by kernel_rfl) rfl ?_
              refine fj_val rfl rfl rfl (wn0 rfl) (fun R1 hR1 G => (y_fieldAddr (k := 0) Try.underlying29 rfl (n := 1) (by decide) Try.sizeOf9 rfl)) ?_
              first | refine fj_val rfl rfl rfl (wn0 rfl) (fun R1 hR1 G => (y_load ⟨Try.isAgg9, Try.sizeOf9⟩ rfl (by (repeat (first|exact zH _|apply zT));done) rfl)) ?_ | refine fj_val rfl rfl rfl (wn0 rfl) (fun R1 hR1 G => (y_load_slc ⟨Try.isAgg9, Try.sizeOf9⟩ rfl (by (repeat (first|exact zH _|apply zT));done) rfl)) ?_
              refine fj_val rfl rfl rfl (wn0 rfl) (fun R1 hR1 G => (y_move rfl)) ?_
              first | refine fj_val rfl rfl rfl (wn0 rfl) (fun R1 hR1 G => (y_indexAddr Try.underlying43 Try.sizeOf26 rfl rfl (by (first | omega | (dsimp only; omega) | (simp; done) | (simp; omega))))) ?_ | refine fj_val rfl rfl rfl (wn0 rfl) (fun R1 hR1 G => (y_index_slc Try.underlying43 Try.sizeOf26 rfl rfl (by (repeat (first|exact zH _|apply zT));done) (by (first | omega | (dsimp only; omega) | (simp; done) | (simp; omega))))) ?_
              refine fj_val rfl rfl rfl (wn0 rfl) (fun R1 hR1 G => (y_fieldAddr (k := 1) Try.underlying26 rfl (n := 1) (by decide) Try.sizeOf2 rfl)) ?_
              refine fj_val rfl rfl rfl (wn0 rfl) (fun R1 hR1 G => (y_load_ro ⟨Try.isAgg2, Try.sizeOf2⟩ rfl (cell_mono hR1 (hcell0 1 (.int .i64 k0.n) rfl)))) ?_
              refine fj_val rfl rfl rfl (wn0 rfl) (fun R1 hR1 G => (y_move rfl)) ?_
              first | refine fj_val rfl rfl rfl (wn0 rfl) (fun R1 hR1 G => (y_indexAddr Try.underlying43 Try.sizeOf26 rfl rfl (by (first | omega | (dsimp only; omega) | (simp; done) | (simp; omega))))) ?_ | refine fj_val rfl rfl rfl (wn0 rfl) (fun R1 hR1 G => (y_index_slc Try.underlying43 Try.sizeOf26 rfl rfl (by (repeat (first|exact zH _|apply zT));done) (by (first | omega | (dsimp only; omega) | (simp; done) | (simp; omega))))) ?_
              refine fj_val rfl rfl rfl (wn0 rfl) (fun R1 hR1 G => (y_fieldAddr (k := 1) Try.underlying26 rfl (n := 1) (by decide) Try.sizeOf2 rfl)) ?_
              refine fj_val rfl rfl rfl (wn0 rfl) (fun R1 hR1 G => (y_load_ro ⟨Try.isAgg2, Try.sizeOf2⟩ rfl (cell_mono hR1 (hcell1 1 (.int .i64 k1.n) rfl)))) ?_
              refine fj_nil ?_
              refine xs_nil ?_
              try simp only [List.cons_append, List.nil_append, List.append_nil]
              refine rj_callp (wn0 rfl) rfl Try.call68 rfl (reckon_p op _ _ (hks k0 (by simp)).2 (hks k1 (by simp)).2) (by (repeat (first|exact zN _|(apply zS;focus (repeat (first|exact zH _|apply zT)))))) (fun e hpe => ?_) (fun u30_10 hu30_10 => ?_)
              · refine hpan _ _ _ _ ?_; refine ej_pan _ ([]) (by first | exact Hp.le_refl _ | assumption | exact Hp.le_trans ‹_› ‹_›) rfl (by (repeat (first|exact zR _|(apply zP;focus (repeat (first|exact zH _|apply zT)))|apply zD|exact zA _ _))) ?_; rw [intV_err hpe] at hres; exact ⟨⟨e, by rw [← hres]; rfl, rfl⟩, rfl⟩
              obtain ⟨n30, hn30, rfl⟩ := intV_ok hu30_10
              rw [hn30] at hres
              refine rv0 rfl rfl rfl (y_call Try.call64 rfl (number_q _) (by (repeat (first|exact zN _|(apply zS;focus (repeat (first|exact zH _|apply zT))))))) ?_
              refine rj_stores_all (vs := valC (⟨1, n30, []⟩)) ⟨Try.isAgg26, Try.sizeOf26⟩ rfl (wn0 rfl) rfl rfl (valE.one (R := R) (x := ⟨1, n30, []⟩) rfl) (by (repeat (first|exact zH _|apply zT));done) rfl ?_
              refine rj_nil ?_
              refine hK47 _ _ _ ?_
              refine cj_env (eL 4 rfl eN) ?_
              refine cj_ret ?_
              refine hret _ _ _ ?_
              apply ej_ret Try.results42 (.cons (rv_cells ⟨Try.isAgg26, Try.sizeOf26⟩ rfl (by (repeat (first|exact zH _|apply zT));done) rfl rfl) .nil) _ [] (by (first | exact Hp.le_refl _ | assumption | exact Hp.le_trans ‹_› ‹_›)) rfl
              case hp => exact ⟨by rw [← hres]; rfl, rfl⟩
              case hS => (repeat (first|exact zR _|(apply zP;focus (repeat (first|exact zH _|apply zT)))|apply zD|exact zA _ _))
end V
end Go.Proofs.Ytghgifgmacapcaa
