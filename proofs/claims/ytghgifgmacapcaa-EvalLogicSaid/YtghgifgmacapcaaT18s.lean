/- The document's value, walked. -/
import Derived.Test.YtghgifgmacapcaaT18r
set_option linter.unusedSimpArgs false
set_option linter.unusedVariables false
set_option maxRecDepth 100000
namespace Go.Proofs.Ytghgifgmacapcaa
open Go.RowKit
namespace V
set_option maxHeartbeats 4000000
theorem QTri.eq {P : Program} {f : FuncId} {args : List Value} {R : Hp} {L : List Asn} {v v' : Value} (h : QTri P f args R L v) (e : v = v') : QTri P f args R L v' := e ▸ h
theorem gmax_no {op : Op} {v out : Vl} (hvk : ¬ v.kind = 0) (hok2 : ¬ out.kind = 0) (emax : op = .max) (hgt : ¬ cmpV v out > 0) : gstep op out v = .ok out := by
  subst emax
  unfold gstep
  rw [if_neg hvk, if_neg hok2, if_neg (by decide)]
  by_cases h : cmpV v out < 0
  · rw [if_neg (by simp [h])]
  · have := cmpV_zero (a := v) (b := out) (by omega)
    rw [this, ite_self]
theorem rvalue_q (N : Nat) : ∀ (x : Ex) (cs : List Value) {R : Hp} (cols : List Cl) (vc : Value) (rows : List (List Vl)) (vr : Value) (may grp : Bool), SizeOf.sizeOf x ≤ N → WfX x → RepX R x cs → FrX colE R cols vc → (∀ c ∈ cols, kok c.kind) → FrX rowE R rows vr → RowsOK cols rows → (kindX cols may x).2 = 0 → (bareB x = true → rows ≠ []) →
    QTri Try.prog 44 [.agg ⟨cs⟩, vc, vr, .bool grp] R [] (pairV (evX vstep gstep cols rows x)) := by
  induction N using Nat.strongRecOn with
  | _ N ih =>
  intro x cs R cols vc rows vr may grp hN hw hx hc hck hr hro hk hb
  obtain ⟨op, lit, name, kids, vk, rfl, rfl, hkx⟩ := hx.inv
  have hkid : ∀ y ∈ kids, ∀ {R' : Hp} (m g : Bool) (rows' : List (List Vl)) (vr' : Value) (cy : List Value), R.le R' → RepX R' y cy → FrX rowE R' rows' vr' → RowsOK cols rows' → (kindX cols m y).2 = 0 → (bareB y = true → rows' ≠ []) → QTri Try.prog 44 [.agg ⟨cy⟩, vc, vr', .bool g] R' [] (pairV (evX vstep gstep cols rows' y)) := fun y hy R' m g rows' vr' cy hR h1 h2 h3 h4 h6 =>
    ih (SizeOf.sizeOf y) (by have := List.sizeOf_lt_of_mem hy; simp at hN; omega) y cy cols vc rows' vr' m g (Nat.le_refl _) (hw.inv.2.2.2 y hy) h1 (hc.mono hR) hck h2 h3 h4 h6
  clear ih
  have hkk := hk
  rw [kindX_step] at hkk
  have hk0 := kstep_zero hkk
  have har := hw.inv.1
  have hsd := fun (y : Ex) (hy : y ∈ kids) (m : Bool) (rows' : List (List Vl)) (u : Vl) (h1 : RowsOK cols rows') (h2 : (kindX cols m y).2 = 0) (h3 : evX vstep gstep cols rows' y = .ok u) => sound hck _ y m rows' u (Nat.le_refl _) (hw.inv.2.2.2 y hy) h1 h2 h3
  obtain ⟨q, cap, rfl, hcap, hcm⟩ := hkx.shape
  obtain ⟨qc, capc, rfl, hcc1, hcc2⟩ := hc.shape
  obtain ⟨qr, capr, rfl, hcr1, hcr2⟩ := hr.shape
  have hrl : rows.length ≤ 9223372036854775807 := hro.len
  have hlb : kids.length ≤ 2 := by rw [har]; cases op <;> decide
  obtain ⟨res, hres⟩ : ∃ r, evX vstep gstep cols rows (.mk op lit name kids) = r := ⟨_, rfl⟩
  rw [hres]
  rw [evX] at hres
  refine Tri.q2 ?_
  unfold exC
  refine tri_of Try.func44 rfl Try.ntmps44 rfl (fun σ F Q hret hend hpan => ?_)
  try simp only [List.cons_append, List.nil_append]
  refine cj_env (eL 0 rfl (eL 1 rfl (eL 2 rfl (eL 3 rfl eN)))) ?_
  refine cj_seq (fun K1 hK1 => ?_)
  refine cj_region ?_
  refine rj_box (wn0 rfl) rfl rfl rfl (fun b4 => ?_)
  refine rj_alloc (wn0 rfl) rfl Try.zeroValue26 rfl (fun b8 => ?_)
  refine rv0 rfl rfl rfl (y_assign rfl) ?_
  refine rj_nil ?_
  refine hK1 _ _ _ ?_
  refine cj_seq (fun K2 hK2 => ?_)
  refine cj_seq (fun K3 hK3 => ?_)
  refine cj_region ?_
  refine rv0 rfl rfl rfl (y_fieldAddr (k := 0) Try.underlying29 rfl (n := 1) (by decide) Try.sizeOf9 rfl) ?_
  first | refine rv0 rfl rfl rfl (y_load ⟨Try.isAgg9, Try.sizeOf9⟩ rfl (by (repeat (first|exact zH _|apply zT));done) rfl) ?_ | refine rv0 rfl rfl rfl (y_load_slc ⟨Try.isAgg9, Try.sizeOf9⟩ rfl (by (repeat (first|exact zH _|apply zT));done) rfl) ?_
  refine rj_nil ?_
  refine hK3 _ _ _ ?_
  refine cj_env (eL 1 rfl (eL 2 rfl (eL 3 rfl (eL 4 rfl (eL 8 rfl (eL 22 rfl eN)))))) ?_
  refine cj_block ?_
  refine cj_seq (fun K4 hK4 => ?_)
  refine cj_region ?_
  refine rv0 rfl rfl rfl (y_seql rfl rfl) ?_
  refine rv0 rfl rfl rfl (y_assign rfl) ?_
  refine rj_nil ?_
  refine hK4 _ _ _ ?_
  refine cj_condt rfl (fun hc23 => ?_) (fun hc23 => ?_)
  ·obtain rfl := Op.is hc23 rfl
   refine cj_seq (fun K6 hK6 => ?_)
   refine cj_region ?_
   refine rv0 rfl rfl rfl (y_fieldAddr (k := 1) Try.underlying29 rfl (n := 3) (by decide) Try.sizeOf26 rfl) ?_
   first | refine rv0 rfl rfl rfl (y_loads_blk ⟨Try.isAgg26, Try.sizeOf26⟩ rfl (by (repeat (first|exact zH _|apply zT));done) rfl rfl) ?_ | refine rv0 rfl rfl rfl (y_loads_slc ⟨Try.isAgg26, Try.sizeOf26⟩ rfl (by (repeat (first|exact zH _|apply zT));done) rfl rfl (by (first | omega | (dsimp only; omega) | (simp; done) | (simp; omega)))) ?_
   refine rj_stores_all (vs := valC (lit)) ⟨Try.isAgg26, Try.sizeOf26⟩ rfl (wn0 rfl) rfl rfl (valE.one (R := R) (x := lit) rfl) (by (repeat (first|exact zH _|apply zT));done) rfl ?_
   refine rv0 rfl rfl rfl (y_assign rfl) ?_
   refine rj_nil ?_
   refine hK6 _ _ _ ?_
   refine cj_env (eL 8 rfl (eL 9 rfl eN)) ?_
   refine cj_ret ?_
   refine hret _ _ _ ?_
   apply ej_ret Try.results44 (.cons (rv_cells ⟨Try.isAgg26, Try.sizeOf26⟩ rfl (by (repeat (first|exact zH _|apply zT));done) rfl rfl) (.cons (rv_tmp rfl) .nil)) _ [] (by (first | exact Hp.le_refl _ | assumption | exact Hp.le_trans ‹_› ‹_›)) rfl
   case hp => rw [if_pos rfl] at hres; exact ⟨by rw [← hres]; rfl, rfl⟩
   case hS => (repeat (first|exact zR _|(apply zP;focus (repeat (first|exact zH _|apply zT)))|apply zD|exact zA _ _))
  ·have nval : ¬ op = .val := by rintro rfl; simp [Op.str] at hc23
   refine cj_seq (fun K7 hK7 => ?_)
   refine cj_region ?_
   refine rv0 rfl rfl rfl (y_seql rfl rfl) ?_
   refine rv0 rfl rfl rfl (y_assign rfl) ?_
   refine rj_nil ?_
   refine hK7 _ _ _ ?_
   refine cj_env (eL 1 rfl (eL 2 rfl (eL 3 rfl (eL 4 rfl (eL 8 rfl (eL 22 rfl (eL 27 rfl eN))))))) ?_
   refine cj_condt rfl (fun hc27 => ?_) (fun hc27 => ?_)
   ·obtain rfl := Op.is hc27 rfl
    refine cj_seq (fun K9 hK9 => ?_)
    have hp5 : ¬ placeC cols name < 0 := by intro hp; rw [kstep] at hkk; rw [if_neg (by simpa using hk0)] at hkk; simp [fam, hp] at hkk
    obtain ⟨c5, hc5, hd5, _⟩ := placeC_at hp5
    obtain ⟨row, rest, rfl⟩ : ∃ row rest, rows = row :: rest := by cases rows with | nil => exact absurd rfl (hb (by rw [bareB]; rfl)) | cons row rest => exact ⟨row, rest, rfl⟩
    have ha5 := all2_iff.1 (hro.all row (by simp))
    have hl5 := (List.getElem?_eq_some_iff.1 hc5).1
    obtain ⟨u5, hu5⟩ : ∃ u, row[(placeC cols name).toNat]? = some u := ⟨_, List.getElem?_eq_getElem (by omega)⟩
    obtain ⟨br, orr, cpr, csr, her, ⟨vrow, rfl, hrow⟩, _, hcellr⟩ := hr.at (i := 0) (x := row) rfl
    obtain ⟨rfl, rfl⟩ : qr = some ⟨br, orr, none⟩ ∧ capr = cpr := by cases her; exact ⟨rfl, rfl⟩
    obtain ⟨bu, ou, cpu, csu, rfl, rfl, _, hcellu⟩ := hrow.at hu5
    refine cj_mix [0, 1, 2, 3, 4, 5, 6, 7, 8] [] [9, 10] (by kernel_rfl) (by kernel_rfl) (by kernel_rfl) rfl ?_
    refine fj_val rfl rfl rfl (wn0 rfl) (fun R1 hR1 G => (y_move rfl)) ?_
    first | refine fj_val rfl rfl rfl (wn0 rfl) (fun R1 hR1 G => (y_indexAddr Try.underlying45 Try.sizeOf43 rfl rfl (by (first | omega | (dsimp only; omega) | (simp; done) | (simp; omega))))) ?_ | refine fj_val rfl rfl rfl (wn0 rfl) (fun R1 hR1 G => (y_index_slc Try.underlying45 Try.sizeOf43 rfl rfl (by (repeat (first|exact zH _|apply zT));done) (by (first | omega | (dsimp only; omega) | (simp; done) | (simp; omega))))) ?_
    refine fj_val rfl rfl rfl (wn0 rfl) (fun R1 hR1 G => (y_load_ro ⟨Try.isAgg43, Try.sizeOf43⟩ rfl (cell_mono hR1 (hcellr 0 _ rfl)))) ?_
    refine fj_val rfl rfl rfl (wn0 rfl) (fun R1 hR1 G => (y_move rfl)) ?_
    refine fj_val rfl rfl rfl (wn0 rfl) (fun R1 hR1 G => (y_fieldAddr (k := 4) Try.underlying29 rfl (n := 1) (by decide) Try.sizeOf9 rfl)) ?_
    first | refine fj_val rfl rfl rfl (wn0 rfl) (fun R1 hR1 G => (y_load ⟨Try.isAgg9, Try.sizeOf9⟩ rfl (by (repeat (first|exact zH _|apply zT));done) rfl)) ?_ | refine fj_val rfl rfl rfl (wn0 rfl) (fun R1 hR1 G => (y_load_slc ⟨Try.isAgg9, Try.sizeOf9⟩ rfl (by (repeat (first|exact zH _|apply zT));done) rfl)) ?_
    refine fj_val rfl rfl rfl (wn0 rfl) (fun R1 hR1 G => (y_call Try.call54 rfl (at_q cols _ (hc.mono hR1) name) (by (repeat (first|exact zN _|(apply zS;focus (repeat (first|exact zH _|apply zT)))))))) ?_
    refine fj_val rfl rfl rfl (wn0 rfl) (fun R1 hR1 G => (y_indexAddr Try.underlying43 Try.sizeOf26 rfl rfl (by omega))) ?_
    refine fj_val rfl rfl rfl (wn0 rfl) (fun R1 hR1 G => (y_loads_ro ⟨Try.isAgg26, Try.sizeOf26⟩ (vs := valC u5) rfl rfl (fun j u hj => cell_mono hR1 (hcellu j u hj)))) ?_
    refine fj_nil ?_
    refine xj_nil ?_
    try simp only [List.cons_append, List.nil_append, List.append_nil]
    refine rj_stores_all (vs := valC (u5)) ⟨Try.isAgg26, Try.sizeOf26⟩ rfl (wn0 rfl) rfl rfl (valE.one (R := R) (x := u5) rfl) (by (repeat (first|exact zH _|apply zT));done) rfl ?_
    refine rv0 rfl rfl rfl (y_assign rfl) ?_
    refine rj_nil ?_
    refine hK9 _ _ _ ?_
    refine cj_env (eL 8 rfl (eL 9 rfl eN)) ?_
    refine cj_ret ?_
    refine hret _ _ _ ?_
    apply ej_ret Try.results44 (.cons (rv_cells ⟨Try.isAgg26, Try.sizeOf26⟩ rfl (by (repeat (first|exact zH _|apply zT));done) rfl rfl) (.cons (rv_tmp rfl) .nil)) _ [] (by (first | exact Hp.le_refl _ | assumption | exact Hp.le_trans ‹_› ‹_›)) rfl
    case hp => rw [if_neg (by decide), if_pos rfl] at hres; exact ⟨by rw [← hres]; simp [List.getD_eq_getElem?_getD, hu5]; rfl, rfl⟩
    case hS => (repeat (first|exact zR _|(apply zP;focus (repeat (first|exact zH _|apply zT)))|apply zD|exact zA _ _))
   ·have ncol : ¬ op = .col := by rintro rfl; simp [Op.str] at hc27
    refine cj_seq (fun K10 hK10 => ?_)
    refine cj_region ?_
    refine rv0 rfl rfl rfl (y_seql rfl rfl) ?_
    refine rv0 rfl rfl rfl (y_assign rfl) ?_
    refine rj_nil ?_
    refine hK10 _ _ _ ?_
    refine cj_condt rfl (fun hc38 => ?_) (fun hc38 => ?_)
    ·obtain rfl := Op.is hc38 rfl
     refine cj_seq (fun K12 hK12 => ?_)
     refine cj_region ?_
     refine rv0 rfl rfl rfl (y_move rfl) ?_
     first | refine rv0 rfl rfl rfl (y_len_sl Try.underlying45 rfl) ?_ | refine rv0 rfl rfl rfl (y_len_slc Try.underlying45 rfl (by (repeat (first|exact zH _|apply zT));done)) ?_
     refine rv0 rfl rfl rfl (y_call Try.call69 rfl (rnumber_q _) (by (repeat (first|exact zN _|(apply zS;focus (repeat (first|exact zH _|apply zT))))))) ?_
     refine rj_stores_all (vs := valC (⟨1, (rows.length : Int), []⟩)) ⟨Try.isAgg26, Try.sizeOf26⟩ rfl (wn0 rfl) rfl rfl (valE.one (R := R) (x := ⟨1, (rows.length : Int), []⟩) rfl) (by (repeat (first|exact zH _|apply zT));done) rfl ?_
     refine rv0 rfl rfl rfl (y_assign rfl) ?_
     refine rj_nil ?_
     refine hK12 _ _ _ ?_
     refine cj_env (eL 8 rfl (eL 9 rfl eN)) ?_
     refine cj_ret ?_
     refine hret _ _ _ ?_
     apply ej_ret Try.results44 (.cons (rv_cells ⟨Try.isAgg26, Try.sizeOf26⟩ rfl (by (repeat (first|exact zH _|apply zT));done) rfl rfl) (.cons (rv_tmp rfl) .nil)) _ [] (by (first | exact Hp.le_refl _ | assumption | exact Hp.le_trans ‹_› ‹_›)) rfl
     case hp => rw [if_neg nval, if_neg ncol, if_pos rfl] at hres; exact ⟨by rw [← hres]; rfl, rfl⟩
     case hS => (repeat (first|exact zR _|(apply zP;focus (repeat (first|exact zH _|apply zT)))|apply zD|exact zA _ _))
    ·have ncnt : ¬ op = .count := by rintro rfl; simp [Op.str] at hc38
     refine cj_seq (fun K13 hK13 => ?_)
     have hJ11 : ∀ (x : Bool), (x = true → fam op = 5) ∧ (x = false → ¬ op = .sum ∧ ¬ op = .min ∧ ¬ op = .max) → EJ ⟨Try.prog, 244, σ⟩ K13 [(1, .slice qc cols.length capc), (2, .slice qr rows.length capr), (3, .bool grp), (4, .pointer (some ⟨b4, 0, none⟩)), (8, .pointer (some ⟨b8, 0, none⟩)), (43, .bool x)] R (blk b8 (valC Vl.zero) 26 :: blk b4 [.string (str op.str), .int .i64 lit.kind, .int .i64 lit.n, .string (str lit.s), .string (str name), .slice q kids.length cap] 29 :: F) := by
      rintro x43 ⟨h43t, h43f⟩
      try dsimp only
      refine hK13 _ _ _ ?_
      refine cj_condt rfl (fun hc43 => ?_) (fun hc43 => ?_)
      ·first | (have h5 : fam op = 5 := by have := Op.is hc43 rfl; rw [this]; rfl) | (have h5 := h43t hc43; obtain ⟨k, rfl⟩ := kid1 har h5 ncnt; obtain ⟨bk, ok, ck, cs0, hek, hrep, hcl0, hcell0⟩ := hkx.at (i := 0) (x := k) rfl; obtain ⟨rfl, rfl⟩ : q = some ⟨bk, ok, none⟩ ∧ cap = ck := (by cases hek; exact ⟨rfl, rfl⟩); rw [if_neg nval, if_neg ncol, if_neg ncnt, if_pos h5, evG] at hres; obtain ⟨K, hK, hsnd⟩ := group_snd hck hw h5 hkk hk0 hro hsd; have hkk0 := group_kid hk0 (y := k) (by simp))
       refine cj_seq (fun K15 hK15 => ?_)
       refine cj_region ?_
       refine rv0 rfl rfl rfl (y_build (cells := [_, _, _]) [(0, 1), (1, 1), (2, 1)] Try.underlying26 Try.zeroValue26 (fun _ => rfl) rfl rfl) ?_
       refine rj_alloc (wn0 rfl) rfl Try.zeroValue26 rfl (fun b10 => ?_)
       refine rj_stores_all (vs := valC (Vl.zero)) ⟨Try.isAgg26, Try.sizeOf26⟩ rfl (wn0 rfl) rfl rfl (valE.one (R := R) (x := Vl.zero) rfl) (by (repeat (first|exact zH _|apply zT));done) rfl ?_
       refine rj_nil ?_
       refine hK15 _ _ _ ?_
       refine cj_env (eL 1 rfl (eL 2 rfl (eL 4 rfl (eL 8 rfl (eL 10 rfl eN))))) ?_
       refine cj_seq (fun K16 hK16 => ?_)
       refine cj_seq (fun K17 hK17 => ?_)
       refine cj_region ?_
       refine rv0 rfl rfl rfl (y_assign rfl) ?_
       refine rj_nil ?_
       refine hK17 _ _ _ ?_
       refine cj_block ?_
       refine cj_env (E' := (fun (x : Nat × Vl) => [(1, .slice qc cols.length capc), (2, .slice qr rows.length capr), (4, .pointer (some ⟨b4, 0, none⟩)), (8, .pointer (some ⟨b8, 0, none⟩)), (10, .pointer (some ⟨b10, 0, none⟩)), (11, .int .i64 (x.1 : Int))]) (0, Vl.zero)) (eC rfl (eC rfl (eC rfl (eC rfl (eC rfl (eC rfl eN)))))) ?_
       refine cj_sub (M := (fun (x : Nat × Vl) => blk b10 (valC x.2) 26 :: blk b8 (valC Vl.zero) 26 :: blk b4 [.string (str op.str), .int .i64 lit.kind, .int .i64 lit.n, .string (str lit.s), .string (str name), .slice (some ⟨bk, ok, none⟩) [k].length cap] 29 :: F) (0, Vl.zero)) (by (repeat (first|exact zR _|(apply zP;focus (repeat (first|exact zH _|apply zT)))|apply zD|exact zA _ _))) ?_
       refine cj_loop (fun (x : Nat × Vl) => [(1, .slice qc cols.length capc), (2, .slice qr rows.length capr), (4, .pointer (some ⟨b4, 0, none⟩)), (8, .pointer (some ⟨b8, 0, none⟩)), (10, .pointer (some ⟨b10, 0, none⟩)), (11, .int .i64 (x.1 : Int))]) (fun (x : Nat × Vl) => R) (fun (x : Nat × Vl) => blk b10 (valC x.2) 26 :: blk b8 (valC Vl.zero) 26 :: blk b4 [.string (str op.str), .int .i64 lit.kind, .int .i64 lit.n, .string (str lit.s), .string (str name), .slice (some ⟨bk, ok, none⟩) [k].length cap] 29 :: F) (fun (x : Nat × Vl) => x.1 ≤ rows.length ∧ foldE (fun row => evX vstep gstep cols [row] k) (gstep op) (rows.take x.1) Vl.zero = .ok x.2) (fun (x : Nat × Vl) => rows.length - x.1) (0, Vl.zero) (⟨by simp, by simp [foldE]⟩) ?_
       rintro ⟨i, out⟩ ⟨hi, hfold⟩
       try dsimp only
       dsimp only at hi hfold
       refine cj_seq (fun K18 hK18 => ?_)
       refine cj_seq (fun K19 hK19 => ?_)
       refine cj_region ?_
       refine rv0 rfl rfl rfl (y_move rfl) ?_
       refine rv0 rfl rfl rfl (y_move rfl) ?_
       first | refine rv0 rfl rfl rfl (y_len_sl Try.underlying45 rfl) ?_ | refine rv0 rfl rfl rfl (y_len_slc Try.underlying45 rfl (by (repeat (first|exact zH _|apply zT));done)) ?_
       refine rv0 rfl rfl rfl (y_lss rfl rfl) ?_
       refine rj_nil ?_
       refine hK19 _ _ _ ?_
       refine cj_env (eL 1 rfl (eL 2 rfl (eL 4 rfl (eL 8 rfl (eL 10 rfl (eL 11 rfl (eL 51 rfl eN))))))) ?_
       refine cj_condt rfl (fun hc51 => ?_) (fun hc51 => ?_)
       ·try simp only [dT, dF, nT, nF, tF, fT] at hc51
        refine cj_skip ?_
        refine hK18 _ _ _ ?_
        refine cj_seq (fun K21 hK21 => ?_)
        have hJ14 : ∀ (x : Vl), foldE (fun row => evX vstep gstep cols [row] k) (gstep op) (rows.take (i + 1)) Vl.zero = .ok x → EJ ⟨Try.prog, 244, σ⟩ K21 [(1, .slice qc cols.length capc), (2, .slice qr rows.length capr), (4, .pointer (some ⟨b4, 0, none⟩)), (8, .pointer (some ⟨b8, 0, none⟩)), (10, .pointer (some ⟨b10, 0, none⟩)), (11, .int .i64 (i : Int))] R (blk b10 (valC x) 26 :: blk b8 (valC Vl.zero) 26 :: blk b4 [.string (str op.str), .int .i64 lit.kind, .int .i64 lit.n, .string (str lit.s), .string (str name), .slice (some ⟨bk, ok, none⟩) [k].length cap] 29 :: F) := by
         rintro out' hg
         try dsimp only
         refine hK21 _ _ _ ?_
         refine cj_region ?_
         refine rv0 rfl rfl rfl (y_move rfl) ?_
         first | refine rv0 rfl rfl rfl (y_add64 rfl rfl (by (first | omega | (dsimp only; omega) | (simp; done) | (simp; omega)))) ?_ | refine rv0 rfl rfl rfl (y_add rfl rfl) ?_
         refine rv0 rfl rfl rfl (y_assign rfl) ?_
         refine rj_nil ?_
         refine ej_on (q' := roundK _ _ _ _ _ _ _) rfl ?_
         refine ej_round ((i + 1, out')) (⟨by dsimp only; omega, hg⟩) (by dsimp only; omega) (eC rfl (eC rfl (eC rfl (eC rfl (eC rfl (eC rfl eN)))))) rfl (by (repeat (first|exact zR _|(apply zP;focus (repeat (first|exact zH _|apply zT)))|apply zD|exact zA _ _)))
        refine cj_block ?_
        refine cj_seq (fun K22 hK22 => ?_)
        obtain ⟨row, hx⟩ : ∃ row, rows[i]? = some row := ⟨rows[i]'(by (try simp at hc51); omega), by simp⟩
        have hi2 : i < rows.length := (List.getElem?_eq_some_iff.1 hx).1
        have hrm := List.mem_of_getElem? hx
        have hsub := hr.sub (a := i) (b := i + 1) (by omega) (by omega)
        rw [drop_one hx] at hsub
        have hso := (foldE_ok (f := fun row => evX vstep gstep cols [row] k) (op := op) hK (l := rows.take i) (out := Vl.zero) (o := out) (fun row hm u hu => hsnd k (by simp) row (List.mem_of_mem_take hm) u hu) .zero (.inl rfl) hfold).1
        obtain ⟨v, e0, h15, hc15⟩ := pairV_split (r := evX vstep gstep cols [row] k) (fun e he => evX_e _ k [row] e (Nat.le_refl _) he)
        refine cj_mixg (L := [blk b4 [.string (str op.str), .int .i64 lit.kind, .int .i64 lit.n, .string (str lit.s), .string (str name), .slice (some ⟨bk, ok, none⟩) [k].length cap] 29]) [0, 1, 2, 3, 4, 5, 6, 7, 8, 9, 10, 11, 12, 13] [14, 15] [16] _ (by (repeat (first|exact zR _|(apply zP;focus (repeat (first|exact zH _|apply zT)))|apply zD|exact zA _ _))) (by kernel_rfl) (by kernel_rfl) (by kernel_rfl) rfl ?_
        refine fj_val rfl rfl rfl (wn0 rfl) (fun R1 hR1 G => (y_fieldAddr (k := 5) Try.underlying29 rfl (n := 1) (by decide) Try.sizeOf27 rfl)) ?_
        first | refine fj_val rfl rfl rfl (wn0 rfl) (fun R1 hR1 G => (y_load ⟨Try.isAgg27, Try.sizeOf27⟩ rfl (by (repeat (first|exact zH _|apply zT));done) rfl)) ?_ | refine fj_val rfl rfl rfl (wn0 rfl) (fun R1 hR1 G => (y_load_slc ⟨Try.isAgg27, Try.sizeOf27⟩ rfl (by (repeat (first|exact zH _|apply zT));done) rfl)) ?_
        first | refine fj_val rfl rfl rfl (wn0 rfl) (fun R1 hR1 G => (y_indexAddr Try.underlying27 Try.sizeOf29 rfl rfl (by (first | omega | (dsimp only; omega) | (simp; done) | (simp; omega))))) ?_ | refine fj_val rfl rfl rfl (wn0 rfl) (fun R1 hR1 G => (y_index_slc Try.underlying27 Try.sizeOf29 rfl rfl (by (repeat (first|exact zH _|apply zT));done) (by (first | omega | (dsimp only; omega) | (simp; done) | (simp; omega))))) ?_
        refine fj_val rfl rfl rfl (wn0 rfl) (fun R1 hR1 G => (y_loads_ro ⟨Try.isAgg29, Try.sizeOf29⟩ (vs := cs0) hcl0 rfl (fun j u hj => cell_mono hR1 (hcell0 j u hj)))) ?_
        refine fj_val rfl rfl rfl (wn0 rfl) (fun R1 hR1 G => (y_move rfl)) ?_
        refine fj_val rfl rfl rfl (wn0 rfl) (fun R1 hR1 G => (y_move rfl)) ?_
        refine fj_val rfl rfl rfl (wn0 rfl) (fun R1 hR1 G => (y_move rfl)) ?_
        refine fj_val rfl rfl rfl (wn0 rfl) (fun R1 hR1 G => (y_move rfl)) ?_
        first | refine fj_val rfl rfl rfl (wn0 rfl) (fun R1 hR1 G => (y_add64 rfl rfl (by (first | omega | (dsimp only; omega) | (simp; done) | (simp; omega))))) ?_ | refine fj_val rfl rfl rfl (wn0 rfl) (fun R1 hR1 G => (y_add rfl rfl)) ?_
        refine fj_val rfl rfl rfl (wn0 rfl) (fun R1 hR1 G => (y_slice_sl (l := i) (h := i + 1) Try.underlying45 Try.sizeOf43 rfl ⟨.i64, rfl⟩ ⟨.i64, rfl⟩ (by omega))) ?_
        refine fj_val rfl rfl rfl (wn0 rfl) (fun R1 hR1 G => (y_call Try.call44 rfl ((hkid k (by simp) _ false [row] _ cs0 hR1 (hrep.mono hR1) (hsub.mono hR1) (hro.one hrm) hkk0 (fun _ => by simp)).eq h15) (by (repeat (first|exact zN _|(apply zS;focus (repeat (first|exact zH _|apply zT)))))))) ?_
        refine fj_val rfl rfl rfl (wn0 rfl) (fun R1 hR1 G => (y_move rfl)) ?_
        refine fj_val rfl rfl rfl (wn0 rfl) (fun R1 hR1 G => (y_extract rfl rfl)) ?_
        refine fj_val rfl rfl rfl (wn0 rfl) (fun R1 hR1 G => (y_extract rfl rfl)) ?_
        refine fj_nil ?_
        refine xj_rj rfl ?_
        try simp only [List.cons_append, List.nil_append, List.append_nil]
        refine rj_alloc (wn0 rfl) rfl Try.zeroValue26 rfl (fun b12 => ?_)
        refine rj_xk (by (first | exact Hp.le_refl _ | assumption | exact Hp.le_trans ‹_› ‹_›)) (by (repeat (first|exact zR _|(apply zP;focus (repeat (first|exact zH _|apply zT)))|apply zD|exact zA _ _))) ?_
        refine xj_rj rfl ?_
        try simp only [List.cons_append, List.nil_append, List.append_nil]
        refine rj_stores_all (vs := valC (v)) ⟨Try.isAgg26, Try.sizeOf26⟩ rfl (wn0 rfl) rfl rfl (valE.one (R := R) (x := v) rfl) (by (repeat (first|exact zH _|apply zT));done) rfl ?_
        refine rj_xk (by (first | exact Hp.le_refl _ | assumption | exact Hp.le_trans ‹_› ‹_›)) (by (repeat (first|exact zR _|(apply zP;focus (repeat (first|exact zH _|apply zT)))|apply zD|exact zA _ _))) ?_
        refine xj_nil ?_
        try simp only [List.cons_append, List.nil_append, List.append_nil]
        refine rv0 rfl rfl rfl (y_assign rfl) ?_
        refine rj_nil ?_
        refine hK22 _ _ _ ?_
        refine cj_env (eL 1 rfl (eL 2 rfl (eL 4 rfl (eL 8 rfl (eL 10 rfl (eL 11 rfl (eL 12 rfl (eL 13 rfl eN)))))))) ?_
        refine cj_seq (fun K23 hK23 => ?_)
        refine cj_seq (fun K24 hK24 => ?_)
        refine cj_region ?_
        refine rv0 rfl rfl rfl (y_move rfl) ?_
        refine rv0 rfl rfl rfl (y_neq rfl rfl) ?_
        refine rj_nil ?_
        refine hK24 _ _ _ ?_
        refine cj_condt rfl (fun hc69 => ?_) (fun hc69 => ?_)
        ·have hne : ¬ e0 = 0 := by simpa using hc69
         obtain ⟨_, hev, _⟩ := hc15.resolve_left (fun h => hne h.1)
         refine cj_seq (fun K26 hK26 => ?_)
         refine cj_region ?_
         refine rv0 rfl rfl rfl (y_build (cells := [_, _, _]) [(0, 1), (1, 1), (2, 1)] Try.underlying26 Try.zeroValue26 (fun _ => rfl) rfl rfl) ?_
         refine rv0 rfl rfl rfl (y_move rfl) ?_
         refine rj_stores_all (vs := valC (Vl.zero)) ⟨Try.isAgg26, Try.sizeOf26⟩ rfl (wn0 rfl) rfl rfl (valE.one (R := R) (x := Vl.zero) rfl) (by (repeat (first|exact zH _|apply zT));done) rfl ?_
         refine rv0 rfl rfl rfl (y_assign rfl) ?_
         refine rj_nil ?_
         refine hK26 _ _ _ ?_
         refine cj_env (eL 8 rfl (eL 9 rfl eN)) ?_
         refine cj_ret ?_
         refine hret _ _ _ ?_
         apply ej_ret Try.results44 (.cons (rv_cells ⟨Try.isAgg26, Try.sizeOf26⟩ rfl (by (repeat (first|exact zH _|apply zT));done) rfl rfl) (.cons (rv_tmp rfl) .nil)) _ [] (by (first | exact Hp.le_refl _ | assumption | exact Hp.le_trans ‹_› ‹_›)) rfl
         case hp => obtain ⟨_, _, rfl⟩ := hc15.resolve_left (fun h => hne h.1); exact ⟨by rw [← hres, foldE_err hfold hx (.inl hev)]; rfl, rfl⟩
         case hS => (repeat (first|exact zR _|(apply zP;focus (repeat (first|exact zH _|apply zT)))|apply zD|exact zA _ _))
        ·obtain rfl : e0 = 0 := by simpa using hc69
         obtain ⟨_, hv⟩ := hc15.resolve_right (fun h => h.1 rfl)
         have hsv := (hsnd k (by simp) row hrm v hv).1
         refine cj_skip ?_
         refine hK23 _ _ _ ?_
         refine cj_env (eL 1 rfl (eL 2 rfl (eL 4 rfl (eL 8 rfl (eL 10 rfl (eL 11 rfl (eL 12 rfl eN))))))) ?_
         refine cj_seq (fun K27 hK27 => ?_)
         refine cj_seq (fun K28 hK28 => ?_)
         refine cj_region ?_
         refine rv0 rfl rfl rfl (y_fieldAddr (k := 0) Try.underlying26 rfl (n := 1) (by decide) Try.sizeOf3 rfl) ?_
         first | refine rv0 rfl rfl rfl (y_load ⟨Try.isAgg3, Try.sizeOf3⟩ rfl (by (repeat (first|exact zH _|apply zT));done) rfl) ?_ | refine rv0 rfl rfl rfl (y_load_slc ⟨Try.isAgg3, Try.sizeOf3⟩ rfl (by (repeat (first|exact zH _|apply zT));done) rfl) ?_
         refine rv0 rfl rfl rfl (y_eql rfl rfl) ?_
         refine rj_nil ?_
         refine hK28 _ _ _ ?_
         refine cj_condt rfl (fun hc74 => ?_) (fun hc74 => ?_)
         ·have hvk : v.kind = 0 := by simpa using hc74
          refine cj_exit ?_
          refine ej_join hJ14 (out) (foldE_snoc hfold hx hv (by unfold gstep; rw [if_pos hvk])) (eC rfl (eC rfl (eC rfl (eC rfl (eC rfl (eC rfl eN)))))) rfl (by (repeat (first|exact zR _|(apply zP;focus (repeat (first|exact zH _|apply zT)))|apply zD|exact zA _ _)))
         ·have hvk : ¬ v.kind = 0 := by simpa using hc74
          refine cj_skip ?_
          refine hK27 _ _ _ ?_
          refine cj_env (eL 1 rfl (eL 2 rfl (eL 4 rfl (eL 8 rfl (eL 10 rfl (eL 11 rfl (eL 12 rfl eN))))))) ?_
          refine cj_seq (fun K30 hK30 => ?_)
          refine cj_region ?_
          refine rv0 rfl rfl rfl ((y_loads_all (vs := valC v) ⟨Try.isAgg26, Try.sizeOf26⟩ rfl rfl (by (repeat (first|exact zH _|apply zT));done))) ?_
          refine rv0 rfl rfl rfl ((y_loads_all (vs := valC out) ⟨Try.isAgg26, Try.sizeOf26⟩ rfl rfl (by (repeat (first|exact zH _|apply zT));done))) ?_
          refine rv0 rfl rfl rfl (y_call Try.call25 rfl (rcompare_q v out hsv.1 hso.1) (by (repeat (first|exact zN _|(apply zS;focus (repeat (first|exact zH _|apply zT))))))) ?_
          refine rv0 rfl rfl rfl (y_assign rfl) ?_
          refine rj_nil ?_
          refine hK30 _ _ _ ?_
          refine cj_env (eL 1 rfl (eL 2 rfl (eL 4 rfl (eL 8 rfl (eL 10 rfl (eL 11 rfl (eL 12 rfl (eL 14 rfl eN)))))))) ?_
          refine cj_block ?_
          refine cj_seq (fun K31 hK31 => ?_)
          refine cj_region ?_
          refine rv0 rfl rfl rfl (y_fieldAddr (k := 0) Try.underlying26 rfl (n := 1) (by decide) Try.sizeOf3 rfl) ?_
          first | refine rv0 rfl rfl rfl (y_load ⟨Try.isAgg3, Try.sizeOf3⟩ rfl (by (repeat (first|exact zH _|apply zT));done) rfl) ?_ | refine rv0 rfl rfl rfl (y_load_slc ⟨Try.isAgg3, Try.sizeOf3⟩ rfl (by (repeat (first|exact zH _|apply zT));done) rfl) ?_
          refine rv0 rfl rfl rfl (y_eql rfl rfl) ?_
          refine rv0 rfl rfl rfl (y_assign rfl) ?_
          refine rj_nil ?_
          refine hK31 _ _ _ ?_
          refine cj_env (eL 1 rfl (eL 2 rfl (eL 4 rfl (eL 8 rfl (eL 10 rfl (eL 11 rfl (eL 12 rfl (eL 14 rfl (eL 78 rfl eN))))))))) ?_
          refine cj_condt rfl (fun hc78 => ?_) (fun hc78 => ?_)
          ·have hok2 : out.kind = 0 := by simpa using hc78
           refine cj_region ?_
           refine rv0 rfl rfl rfl ((y_loads_all (vs := valC v) ⟨Try.isAgg26, Try.sizeOf26⟩ rfl rfl (by (repeat (first|exact zH _|apply zT));done))) ?_
           refine rj_stores_all (vs := valC (v)) ⟨Try.isAgg26, Try.sizeOf26⟩ rfl (wn0 rfl) rfl rfl (valE.one (R := R) (x := v) rfl) (by (repeat (first|exact zH _|apply zT));done) rfl ?_
           refine rj_nil ?_
           refine ej_join hJ14 (v) (foldE_snoc hfold hx hv (by unfold gstep; rw [if_neg hvk, if_pos hok2])) (eC rfl (eC rfl (eC rfl (eC rfl (eC rfl (eC rfl eN)))))) rfl (by (repeat (first|exact zR _|(apply zP;focus (repeat (first|exact zH _|apply zT)))|apply zD|exact zA _ _)))
          ·have hok2 : ¬ out.kind = 0 := by simpa using hc78
           refine cj_seq (fun K33 hK33 => ?_)
           refine cj_region ?_
           refine rv0 rfl rfl rfl (y_fieldAddr (k := 0) Try.underlying29 rfl (n := 1) (by decide) Try.sizeOf9 rfl) ?_
           first | refine rv0 rfl rfl rfl (y_load ⟨Try.isAgg9, Try.sizeOf9⟩ rfl (by (repeat (first|exact zH _|apply zT));done) rfl) ?_ | refine rv0 rfl rfl rfl (y_load_slc ⟨Try.isAgg9, Try.sizeOf9⟩ rfl (by (repeat (first|exact zH _|apply zT));done) rfl) ?_
           refine rv0 rfl rfl rfl (y_seql rfl rfl) ?_
           refine rv0 rfl rfl rfl (y_assign rfl) ?_
           refine rj_nil ?_
           refine hK33 _ _ _ ?_
           refine cj_env (eL 1 rfl (eL 2 rfl (eL 4 rfl (eL 8 rfl (eL 10 rfl (eL 11 rfl (eL 12 rfl (eL 14 rfl (eL 83 rfl eN))))))))) ?_
           refine cj_condt rfl (fun hc83 => ?_) (fun hc83 => ?_)
           ·have hsum : op = .sum := Op.is (op := op) hc83 rfl
            refine cj_seq (fun K35 hK35 => ?_)
            refine cj_region ?_
            refine rv0 rfl rfl rfl (y_fieldAddr (k := 1) Try.underlying26 rfl (n := 1) (by decide) Try.sizeOf2 rfl) ?_
            first | refine rv0 rfl rfl rfl (y_load ⟨Try.isAgg2, Try.sizeOf2⟩ rfl (by (repeat (first|exact zH _|apply zT));done) rfl) ?_ | refine rv0 rfl rfl rfl (y_load_slc ⟨Try.isAgg2, Try.sizeOf2⟩ rfl (by (repeat (first|exact zH _|apply zT));done) rfl) ?_
            refine rv0 rfl rfl rfl (y_fieldAddr (k := 1) Try.underlying26 rfl (n := 1) (by decide) Try.sizeOf2 rfl) ?_
            first | refine rv0 rfl rfl rfl (y_load ⟨Try.isAgg2, Try.sizeOf2⟩ rfl (by (repeat (first|exact zH _|apply zT));done) rfl) ?_ | refine rv0 rfl rfl rfl (y_load_slc ⟨Try.isAgg2, Try.sizeOf2⟩ rfl (by (repeat (first|exact zH _|apply zT));done) rfl) ?_
            refine rv0 rfl rfl rfl (y_call Try.call70 rfl (radd_q _ _ hso.2 hsv.2) (by (repeat (first|exact zN _|(apply zS;focus (repeat (first|exact zH _|apply zT))))))) ?_
            obtain ⟨n24, o24, h24, hr24⟩ := addP_split (out.n + v.n)
            refine rj_eq 92 rfl (v' := tupOf [.int .i64 n24, .bool o24]) h24 ?_
            refine rv0 rfl rfl rfl (y_move rfl) ?_
            refine rv0 rfl rfl rfl (y_extract rfl rfl) ?_
            refine rv0 rfl rfl rfl (y_extract rfl rfl) ?_
            refine rv0 rfl rfl rfl (y_assign rfl) ?_
            refine rv0 rfl rfl rfl (y_assign rfl) ?_
            refine rj_nil ?_
            refine hK35 _ _ _ ?_
            refine cj_env (eL 1 rfl (eL 2 rfl (eL 4 rfl (eL 8 rfl (eL 10 rfl (eL 11 rfl (eL 15 rfl (eL 16 rfl eN)))))))) ?_
            refine cj_seq (fun K36 hK36 => ?_)
            refine cj_seq (fun K37 hK37 => ?_)
            refine cj_region ?_
            refine rv0 rfl rfl rfl (y_move rfl) ?_
            refine rv0 rfl rfl rfl (y_not rfl) ?_
            refine rj_nil ?_
            refine hK37 _ _ _ ?_
            refine cj_condt rfl (fun hc96 => ?_) (fun hc96 => ?_)
            ·obtain rfl : o24 = false := by simpa using hc96
             refine cj_seq (fun K39 hK39 => ?_)
             refine cj_region ?_
             refine rv0 rfl rfl rfl (y_build (cells := [_, _, _]) [(0, 1), (1, 1), (2, 1)] Try.underlying26 Try.zeroValue26 (fun _ => rfl) rfl rfl) ?_
             refine rj_stores_all (vs := valC (Vl.zero)) ⟨Try.isAgg26, Try.sizeOf26⟩ rfl (wn0 rfl) rfl rfl (valE.one (R := R) (x := Vl.zero) rfl) (by (repeat (first|exact zH _|apply zT));done) rfl ?_
             refine rv0 rfl rfl rfl (y_assign rfl) ?_
             refine rj_nil ?_
             refine hK39 _ _ _ ?_
             refine cj_env (eL 8 rfl (eL 9 rfl eN)) ?_
             refine cj_ret ?_
             refine hret _ _ _ ?_
             apply ej_ret Try.results44 (.cons (rv_cells ⟨Try.isAgg26, Try.sizeOf26⟩ rfl (by (repeat (first|exact zH _|apply zT));done) rfl rfl) (.cons (rv_tmp rfl) .nil)) _ [] (by (first | exact Hp.le_refl _ | assumption | exact Hp.le_trans ‹_› ‹_›)) rfl
             case hp => exact ⟨by rw [← hres, foldE_err hfold hx (.inr ⟨v, hv, by unfold gstep; rw [if_neg hvk, if_neg hok2, if_pos hsum, hr24]; rfl⟩)]; rfl, rfl⟩
             case hS => (repeat (first|exact zR _|(apply zP;focus (repeat (first|exact zH _|apply zT)))|apply zD|exact zA _ _))
            ·obtain rfl : o24 = true := by simpa using hc96
             refine cj_skip ?_
             refine hK36 _ _ _ ?_
             refine cj_env (eL 1 rfl (eL 2 rfl (eL 4 rfl (eL 8 rfl (eL 10 rfl (eL 11 rfl (eL 15 rfl eN))))))) ?_
             refine cj_region ?_
             refine rv0 rfl rfl rfl (y_move rfl) ?_
             refine rv0 rfl rfl rfl (y_fieldAddr (k := 1) Try.underlying26 rfl (n := 1) (by decide) Try.sizeOf2 rfl) ?_
             refine rj_store ⟨Try.isAgg2, Try.sizeOf2⟩ (wn0 rfl) rfl rfl (by (first | rfl | assumption | (apply cutV_one; assumption))) (by (repeat (first|exact zH _|apply zT));done) rfl rfl ?_
             refine rj_nil ?_
             refine ej_join hJ14 (⟨out.kind, n24, out.s⟩) (foldE_snoc hfold hx hv (by unfold gstep; rw [if_neg hvk, if_neg hok2, if_pos hsum, hr24]; rfl)) (eC rfl (eC rfl (eC rfl (eC rfl (eC rfl (eC rfl eN)))))) rfl (by (repeat (first|exact zR _|(apply zP;focus (repeat (first|exact zH _|apply zT)))|apply zD|exact zA _ _)))
           ·have hsum : ¬ op = .sum := by rintro rfl; simp [Op.str] at hc83
            refine cj_seq (fun K40 hK40 => ?_)
            refine cj_region ?_
            refine rv0 rfl rfl rfl (y_fieldAddr (k := 0) Try.underlying29 rfl (n := 1) (by decide) Try.sizeOf9 rfl) ?_
            first | refine rv0 rfl rfl rfl (y_load ⟨Try.isAgg9, Try.sizeOf9⟩ rfl (by (repeat (first|exact zH _|apply zT));done) rfl) ?_ | refine rv0 rfl rfl rfl (y_load_slc ⟨Try.isAgg9, Try.sizeOf9⟩ rfl (by (repeat (first|exact zH _|apply zT));done) rfl) ?_
            refine rv0 rfl rfl rfl (y_seql rfl rfl) ?_
            refine rv0 rfl rfl rfl (y_move rfl) ?_
            refine rj_part 104 rfl (fun hg104 => ?_) (fun hg104 => ?_)
            ·have emin : op = .min := Op.is (op := op) hg104 rfl
             refine rj_val (wn1 rfl rfl rfl rfl) rfl rfl (y_move rfl) ?_
             refine rj_val (wn1 rfl rfl rfl rfl) rfl rfl (y_lss rfl rfl) ?_
             refine rv0 rfl rfl rfl (y_pick_t rfl rfl) ?_
             refine rv0 rfl rfl rfl (y_move rfl) ?_
             refine rj_part 108 rfl (fun hg108 => ?_) (fun hg108 => ?_)
             ·have hlt : cmpV v out < 0 := by simpa using hg108
              refine rj_skip (wn2 rfl rfl rfl rfl rfl) rfl rfl ?_
              refine rj_skip (wn2 rfl rfl rfl rfl rfl) rfl rfl ?_
              refine rj_skip (wn2 rfl rfl rfl rfl rfl) rfl rfl ?_
              refine rj_skip (wn2 rfl rfl rfl rfl rfl) rfl rfl ?_
              refine rj_skip (wn3 rfl rfl rfl rfl) rfl rfl ?_
              refine rj_skip (wn3 rfl rfl rfl rfl) rfl rfl ?_
              refine rj_skip (wn2 rfl rfl rfl rfl rfl) rfl rfl ?_
              refine rv0 rfl rfl rfl (y_pick_t rfl rfl) ?_
              refine rv0 rfl rfl rfl (y_assign rfl) ?_
              refine rj_nil ?_
              refine hK40 _ _ _ ?_
              refine cj_env (eL 1 rfl (eL 2 rfl (eL 4 rfl (eL 8 rfl (eL 10 rfl (eL 11 rfl (eL 12 rfl (eL 100 rfl eN)))))))) ?_
              refine cj_cond_t rfl ?_
              refine cj_region ?_
              refine rv0 rfl rfl rfl ((y_loads_all (vs := valC v) ⟨Try.isAgg26, Try.sizeOf26⟩ rfl rfl (by (repeat (first|exact zH _|apply zT));done))) ?_
              refine rj_stores_all (vs := valC (v)) ⟨Try.isAgg26, Try.sizeOf26⟩ rfl (wn0 rfl) rfl rfl (valE.one (R := R) (x := v) rfl) (by (repeat (first|exact zH _|apply zT));done) rfl ?_
              refine rj_nil ?_
              refine ej_join hJ14 (v) (foldE_snoc hfold hx hv (by unfold gstep; rw [if_neg hvk, if_neg hok2, if_neg hsum,  if_pos (by simp [hlt, emin])])) (eC rfl (eC rfl (eC rfl (eC rfl (eC rfl (eC rfl eN)))))) rfl (by (repeat (first|exact zR _|(apply zP;focus (repeat (first|exact zH _|apply zT)))|apply zD|exact zA _ _)))
             ·have hlt : ¬ cmpV v out < 0 := by simpa using hg108
              refine rj_val (wn1 rfl rfl rfl rfl) rfl rfl (y_fieldAddr (k := 0) Try.underlying29 rfl (n := 1) (by decide) Try.sizeOf9 rfl) ?_
              first | refine rj_val (wn1 rfl rfl rfl rfl) rfl rfl (y_load ⟨Try.isAgg9, Try.sizeOf9⟩ rfl (by (repeat (first|exact zH _|apply zT));done) rfl) ?_ | refine rj_val (wn1 rfl rfl rfl rfl) rfl rfl (y_load_slc ⟨Try.isAgg9, Try.sizeOf9⟩ rfl (by (repeat (first|exact zH _|apply zT));done) rfl) ?_
              refine rj_val (wn1 rfl rfl rfl rfl) rfl rfl (y_seql rfl rfl) ?_
              refine rj_val (wn1 rfl rfl rfl rfl) rfl rfl (y_move rfl) ?_
              refine rj_part 112 rfl (fun hg112 => ?_) (fun hg112 => ?_)
              ·have emax : op = .max := Op.is (op := op) hg112 rfl
               refine rj_val (wn1 rfl rfl rfl rfl) rfl rfl (y_move rfl) ?_
               refine rj_val (wn1 rfl rfl rfl rfl) rfl rfl (y_gtr rfl rfl) ?_
               refine rj_val (wn1 rfl rfl rfl rfl) rfl rfl (y_pick_t rfl rfl) ?_
               refine rv0 rfl rfl rfl (y_pick_f rfl rfl) ?_
               refine rv0 rfl rfl rfl (y_assign rfl) ?_
               refine rj_nil ?_
               refine hK40 _ _ _ ?_
               refine cj_env (eL 1 rfl (eL 2 rfl (eL 4 rfl (eL 8 rfl (eL 10 rfl (eL 11 rfl (eL 12 rfl (eL 100 rfl eN)))))))) ?_
               refine cj_condt rfl (fun hc100 => ?_) (fun hc100 => ?_)
               ·have hgt : cmpV v out > 0 := by simpa using hc100
                refine cj_region ?_
                refine rv0 rfl rfl rfl ((y_loads_all (vs := valC v) ⟨Try.isAgg26, Try.sizeOf26⟩ rfl rfl (by (repeat (first|exact zH _|apply zT));done))) ?_
                refine rj_stores_all (vs := valC (v)) ⟨Try.isAgg26, Try.sizeOf26⟩ rfl (wn0 rfl) rfl rfl (valE.one (R := R) (x := v) rfl) (by (repeat (first|exact zH _|apply zT));done) rfl ?_
                refine rj_nil ?_
                refine ej_join hJ14 (v) (absurd (emin.symm.trans emax) (by decide)) (eC rfl (eC rfl (eC rfl (eC rfl (eC rfl (eC rfl eN)))))) rfl (by (repeat (first|exact zR _|(apply zP;focus (repeat (first|exact zH _|apply zT)))|apply zD|exact zA _ _)))
               ·have hgt : ¬ cmpV v out > 0 := by simpa using hc100
                refine cj_skip ?_
                refine ej_join hJ14 (out) (absurd (emin.symm.trans emax) (by decide)) (eC rfl (eC rfl (eC rfl (eC rfl (eC rfl (eC rfl eN)))))) rfl (by (repeat (first|exact zR _|(apply zP;focus (repeat (first|exact zH _|apply zT)))|apply zD|exact zA _ _)))
              ·have nmx : ¬ op = .max := by rintro rfl; simp [Op.str] at hg112
               refine rj_skip (wn2 rfl rfl rfl rfl rfl) rfl rfl ?_
               refine rj_skip (wn2 rfl rfl rfl rfl rfl) rfl rfl ?_
               refine rj_val (wn1 rfl rfl rfl rfl) rfl rfl (y_pick_f rfl rfl) ?_
               refine rv0 rfl rfl rfl (y_pick_f rfl rfl) ?_
               refine rv0 rfl rfl rfl (y_assign rfl) ?_
               refine rj_nil ?_
               refine hK40 _ _ _ ?_
               refine cj_env (eL 1 rfl (eL 2 rfl (eL 4 rfl (eL 8 rfl (eL 10 rfl (eL 11 rfl (eL 12 rfl (eL 100 rfl eN)))))))) ?_
               refine cj_cond_f rfl ?_
               refine cj_skip ?_
               refine ej_join hJ14 (out) (foldE_snoc hfold hx hv (by unfold gstep; rw [if_neg hvk, if_neg hok2, if_neg hsum,  if_neg (by simp [hlt, emin])])) (eC rfl (eC rfl (eC rfl (eC rfl (eC rfl (eC rfl eN)))))) rfl (by (repeat (first|exact zR _|(apply zP;focus (repeat (first|exact zH _|apply zT)))|apply zD|exact zA _ _)))
            ·have nmn : ¬ op = .min := by rintro rfl; simp [Op.str] at hg104
             refine rj_skip (wn2 rfl rfl rfl rfl rfl) rfl rfl ?_
             refine rj_skip (wn2 rfl rfl rfl rfl rfl) rfl rfl ?_
             refine rv0 rfl rfl rfl (y_pick_f rfl rfl) ?_
             refine rv0 rfl rfl rfl (y_move rfl) ?_
             refine rj_val (wn1 rfl rfl rfl rfl) rfl rfl (y_fieldAddr (k := 0) Try.underlying29 rfl (n := 1) (by decide) Try.sizeOf9 rfl) ?_
             first | refine rj_val (wn1 rfl rfl rfl rfl) rfl rfl (y_load ⟨Try.isAgg9, Try.sizeOf9⟩ rfl (by (repeat (first|exact zH _|apply zT));done) rfl) ?_ | refine rj_val (wn1 rfl rfl rfl rfl) rfl rfl (y_load_slc ⟨Try.isAgg9, Try.sizeOf9⟩ rfl (by (repeat (first|exact zH _|apply zT));done) rfl) ?_
             refine rj_val (wn1 rfl rfl rfl rfl) rfl rfl (y_seql rfl rfl) ?_
             refine rj_val (wn1 rfl rfl rfl rfl) rfl rfl (y_move rfl) ?_
             refine rj_part 112 rfl (fun hg112 => ?_) (fun hg112 => ?_)
             ·have emax : op = .max := Op.is (op := op) hg112 rfl
              refine rj_val (wn1 rfl rfl rfl rfl) rfl rfl (y_move rfl) ?_
              refine rj_val (wn1 rfl rfl rfl rfl) rfl rfl (y_gtr rfl rfl) ?_
              refine rj_val (wn1 rfl rfl rfl rfl) rfl rfl (y_pick_t rfl rfl) ?_
              refine rv0 rfl rfl rfl (y_pick_f rfl rfl) ?_
              refine rv0 rfl rfl rfl (y_assign rfl) ?_
              refine rj_nil ?_
              refine hK40 _ _ _ ?_
              refine cj_env (eL 1 rfl (eL 2 rfl (eL 4 rfl (eL 8 rfl (eL 10 rfl (eL 11 rfl (eL 12 rfl (eL 100 rfl eN)))))))) ?_
              refine cj_condt rfl (fun hc100 => ?_) (fun hc100 => ?_)
              ·have hgt : cmpV v out > 0 := by simpa using hc100
               refine cj_region ?_
               refine rv0 rfl rfl rfl ((y_loads_all (vs := valC v) ⟨Try.isAgg26, Try.sizeOf26⟩ rfl rfl (by (repeat (first|exact zH _|apply zT));done))) ?_
               refine rj_stores_all (vs := valC (v)) ⟨Try.isAgg26, Try.sizeOf26⟩ rfl (wn0 rfl) rfl rfl (valE.one (R := R) (x := v) rfl) (by (repeat (first|exact zH _|apply zT));done) rfl ?_
               refine rj_nil ?_
               refine ej_join hJ14 (v) (foldE_snoc hfold hx hv (by unfold gstep; rw [if_neg hvk, if_neg hok2, if_neg hsum,  if_pos (by simp [emax]; omega)])) (eC rfl (eC rfl (eC rfl (eC rfl (eC rfl (eC rfl eN)))))) rfl (by (repeat (first|exact zR _|(apply zP;focus (repeat (first|exact zH _|apply zT)))|apply zD|exact zA _ _)))
              ·have hgt : ¬ cmpV v out > 0 := by simpa using hc100
               refine cj_skip ?_
               refine ej_join hJ14 (out) (foldE_snoc hfold hx hv (gmax_no hvk hok2 emax hgt)) (eC rfl (eC rfl (eC rfl (eC rfl (eC rfl (eC rfl eN)))))) rfl (by (repeat (first|exact zR _|(apply zP;focus (repeat (first|exact zH _|apply zT)))|apply zD|exact zA _ _)))
             ·have nmx : ¬ op = .max := by rintro rfl; simp [Op.str] at hg112
              refine rj_skip (wn2 rfl rfl rfl rfl rfl) rfl rfl ?_
              refine rj_skip (wn2 rfl rfl rfl rfl rfl) rfl rfl ?_
              refine rj_val (wn1 rfl rfl rfl rfl) rfl rfl (y_pick_f rfl rfl) ?_
              refine rv0 rfl rfl rfl (y_pick_f rfl rfl) ?_
              refine rv0 rfl rfl rfl (y_assign rfl) ?_
              refine rj_nil ?_
              refine hK40 _ _ _ ?_
              refine cj_env (eL 1 rfl (eL 2 rfl (eL 4 rfl (eL 8 rfl (eL 10 rfl (eL 11 rfl (eL 12 rfl (eL 100 rfl eN)))))))) ?_
              refine cj_cond_f rfl ?_
              refine cj_skip ?_
              refine ej_join hJ14 (out) (absurd h5 (by cases op <;> first|exact absurd rfl ncnt|exact absurd rfl hsum|exact absurd rfl nmn|exact absurd rfl nmx|decide)) (eC rfl (eC rfl (eC rfl (eC rfl (eC rfl (eC rfl eN)))))) rfl (by (repeat (first|exact zR _|(apply zP;focus (repeat (first|exact zH _|apply zT)))|apply zD|exact zA _ _)))
       ·try simp only [dT, dF, nT, nF, tF, fT] at hc51
        refine cj_exit ?_
        refine hK16 _ _ _ ?_
        refine cj_env (eL 8 rfl (eL 10 rfl eN)) ?_
        refine cj_seq (fun K43 hK43 => ?_)
        refine cj_region ?_
        refine rv0 rfl rfl rfl ((y_loads_all (vs := valC out) ⟨Try.isAgg26, Try.sizeOf26⟩ rfl rfl (by (repeat (first|exact zH _|apply zT));done))) ?_
        refine rj_stores_all (vs := valC (out)) ⟨Try.isAgg26, Try.sizeOf26⟩ rfl (wn0 rfl) rfl rfl (valE.one (R := R) (x := out) rfl) (by (repeat (first|exact zH _|apply zT));done) rfl ?_
        refine rv0 rfl rfl rfl (y_assign rfl) ?_
        refine rj_nil ?_
        refine hK43 _ _ _ ?_
        refine cj_ret ?_
        refine hret _ _ _ ?_
        apply ej_ret Try.results44 (.cons (rv_cells ⟨Try.isAgg26, Try.sizeOf26⟩ rfl (by (repeat (first|exact zH _|apply zT));done) rfl rfl) (.cons (rv_tmp rfl) .nil)) _ [] (by (first | exact Hp.le_refl _ | assumption | exact Hp.le_trans ‹_› ‹_›)) rfl
        case hp =>
         obtain rfl : i = rows.length := by (try simp at hc51); omega
         rw [List.take_length] at hfold; exact ⟨by rw [← hres, hfold]; rfl, rfl⟩
        case hS => (repeat (first|exact zR _|(apply zP;focus (repeat (first|exact zH _|apply zT)))|apply zD|exact zA _ _))
      ·first | (have nsum : ¬ op = .sum := by rintro rfl; simp [Op.str] at hc43; done) | (have nmin : ¬ op = .min := by rintro rfl; simp [Op.str] at hc43; done) | (obtain ⟨nsum, nmin, nmax⟩ := h43f hc43)
       refine cj_skip ?_
       refine hK2 _ _ _ ?_
       refine cj_seq (fun K44 hK44 => ?_)
       refine cj_region ?_
       have h5 : ¬ fam op = 5 := by cases op <;> first | decide | exact absurd rfl ncnt | exact absurd rfl nsum | exact absurd rfl nmin | exact absurd rfl nmax
       rw [if_neg nval, if_neg ncol, if_neg ncnt, if_neg h5] at hres
       have hsnd : ∀ ks, evL vstep gstep cols rows kids = .ok ks → ∀ u ∈ ks, sndV u := fun ks hl u hu => by obtain ⟨i, hi⟩ := List.mem_iff_getElem?.1 hu; obtain ⟨y, hy, hyu⟩ := evL_at hl hi; exact (hsd y (List.mem_of_getElem? hy) _ rows u hro (kindsX_kid hk0 hy).1 hyu).1
       refine rv0 rfl rfl rfl (y_assign rfl) ?_
       refine rj_add (A := slc 26 3 (.slice none 0 0) 0 (valsV [])) (slc_nil _ _) ?_
       refine rj_nil ?_
       refine hK44 _ _ _ ?_
       refine cj_seq (fun K45 hK45 => ?_)
       refine cj_seq (fun K46 hK46 => ?_)
       refine cj_region ?_
       refine rv0 rfl rfl rfl (y_assign rfl) ?_
       refine rj_nil ?_
       refine hK46 _ _ _ ?_
       refine cj_block ?_
       refine cj_env (E' := (fun (x : Nat × Value × List Vl) => [(1, .slice qc cols.length capc), (2, .slice qr rows.length capr), (3, .bool grp), (4, .pointer (some ⟨b4, 0, none⟩)), (8, .pointer (some ⟨b8, 0, none⟩)), (17, x.2.1), (18, .int .i64 (x.1 : Int))]) (0, .slice none 0 0, [])) (eC rfl (eC rfl (eC rfl (eC rfl (eC rfl (eC rfl (eC rfl eN))))))) ?_
       refine cj_sub (M := (fun (x : Nat × Value × List Vl) => slc 26 3 x.2.1 x.2.2.length (valsV x.2.2) :: blk b8 (valC Vl.zero) 26 :: blk b4 [.string (str op.str), .int .i64 lit.kind, .int .i64 lit.n, .string (str lit.s), .string (str name), .slice q kids.length cap] 29 :: F) (0, .slice none 0 0, [])) (by (repeat (first|exact zR _|(apply zP;focus (repeat (first|exact zH _|apply zT)))|apply zD|exact zA _ _))) ?_
       refine cj_loop (fun (x : Nat × Value × List Vl) => [(1, .slice qc cols.length capc), (2, .slice qr rows.length capr), (3, .bool grp), (4, .pointer (some ⟨b4, 0, none⟩)), (8, .pointer (some ⟨b8, 0, none⟩)), (17, x.2.1), (18, .int .i64 (x.1 : Int))]) (fun (x : Nat × Value × List Vl) => R) (fun (x : Nat × Value × List Vl) => slc 26 3 x.2.1 x.2.2.length (valsV x.2.2) :: blk b8 (valC Vl.zero) 26 :: blk b4 [.string (str op.str), .int .i64 lit.kind, .int .i64 lit.n, .string (str lit.s), .string (str name), .slice q kids.length cap] 29 :: F) (fun (x : Nat × Value × List Vl) => x.1 ≤ kids.length ∧ x.2.1.oneCell' = true ∧ evL vstep gstep cols rows (kids.take x.1) = .ok x.2.2) (fun (x : Nat × Value × List Vl) => kids.length - x.1) (0, .slice none 0 0, []) (⟨by simp, rfl, by simp [evL]⟩) ?_
       rintro ⟨i, vl, ks⟩ ⟨hi, hvo, hev⟩
       try dsimp only
       dsimp only at hi hvo hev
       refine cj_seq (fun K47 hK47 => ?_)
       refine cj_seq (fun K48 hK48 => ?_)
       refine cj_region ?_
       refine rv0 rfl rfl rfl (y_move rfl) ?_
       refine rv0 rfl rfl rfl (y_fieldAddr (k := 5) Try.underlying29 rfl (n := 1) (by decide) Try.sizeOf27 rfl) ?_
       first | refine rv0 rfl rfl rfl (y_load ⟨Try.isAgg27, Try.sizeOf27⟩ rfl (by (repeat (first|exact zH _|apply zT));done) rfl) ?_ | refine rv0 rfl rfl rfl (y_load_slc ⟨Try.isAgg27, Try.sizeOf27⟩ rfl (by (repeat (first|exact zH _|apply zT));done) rfl) ?_
       first | refine rv0 rfl rfl rfl (y_len_sl Try.underlying27 rfl) ?_ | refine rv0 rfl rfl rfl (y_len_slc Try.underlying27 rfl (by (repeat (first|exact zH _|apply zT));done)) ?_
       refine rv0 rfl rfl rfl (y_lss rfl rfl) ?_
       refine rj_nil ?_
       refine hK48 _ _ _ ?_
       refine cj_env (eL 1 rfl (eL 2 rfl (eL 3 rfl (eL 4 rfl (eL 8 rfl (eL 17 rfl (eL 18 rfl (eL 123 rfl eN)))))))) ?_
       refine cj_condt rfl (fun hc123 => ?_) (fun hc123 => ?_)
       ·try simp only [dT, dF, nT, nF, tF, fT] at hc123
        refine cj_skip ?_
        refine hK47 _ _ _ ?_
        refine cj_seq (fun K50 hK50 => ?_)
        refine cj_block ?_
        refine cj_seq (fun K51 hK51 => ?_)
        refine cj_region ?_
        have hi2 : i < kids.length := by (try simp at hc123); omega
        obtain ⟨y, hy⟩ : ∃ x, kids[i]? = some x := ⟨kids[i]'(by omega), by simp⟩
        obtain ⟨b, off, cap', cy, he, hrep, hcl, hcell⟩ := hkx.at hy
        obtain ⟨rfl, rfl⟩ : q = some ⟨b, off, none⟩ ∧ cap = cap' := by cases he; exact ⟨rfl, rfl⟩
        have hym := List.mem_of_getElem? hy
        have hkl : ks.length = i := by have := evL_len hev; simp at this; omega
        obtain ⟨v19, e20, h34, hc34⟩ := pairV_split (r := evX vstep gstep cols rows y) (fun e he => evX_e _ y rows e (Nat.le_refl _) he)
        refine rv0 rfl rfl rfl (y_fieldAddr (k := 5) Try.underlying29 rfl (n := 1) (by decide) Try.sizeOf27 rfl) ?_
        first | refine rv0 rfl rfl rfl (y_load ⟨Try.isAgg27, Try.sizeOf27⟩ rfl (by (repeat (first|exact zH _|apply zT));done) rfl) ?_ | refine rv0 rfl rfl rfl (y_load_slc ⟨Try.isAgg27, Try.sizeOf27⟩ rfl (by (repeat (first|exact zH _|apply zT));done) rfl) ?_
        refine rv0 rfl rfl rfl (y_move rfl) ?_
        first | refine rv0 rfl rfl rfl (y_indexAddr Try.underlying27 Try.sizeOf29 rfl rfl (by (first | omega | (dsimp only; omega) | (simp; done) | (simp; omega)))) ?_ | refine rv0 rfl rfl rfl (y_index_slc Try.underlying27 Try.sizeOf29 rfl rfl (by (repeat (first|exact zH _|apply zT));done) (by (first | omega | (dsimp only; omega) | (simp; done) | (simp; omega)))) ?_
        refine rv0 rfl rfl rfl ((y_loads_ro ⟨Try.isAgg29, Try.sizeOf29⟩ (vs := cy) hcl rfl (fun j u hj => hcell j u hj))) ?_
        refine rv0 rfl rfl rfl (y_move rfl) ?_
        refine rv0 rfl rfl rfl (y_move rfl) ?_
        refine rv0 rfl rfl rfl (y_move rfl) ?_
        refine rv0 rfl rfl rfl (((y_call Try.call44 rfl (hkid y hym _ grp rows _ cy (Hp.le_refl _) hrep hr hro (kindsX_kid hk0 hy).1 (fun h => hb (bare_kid h5 hym h))) (by (repeat (first|exact zN _|(apply zS;focus (repeat (first|exact zH _|apply zT))))))).to h34)) ?_
        refine rv0 rfl rfl rfl (y_move rfl) ?_
        refine rv0 rfl rfl rfl (y_extract rfl rfl) ?_
        refine rv0 rfl rfl rfl (y_extract rfl rfl) ?_
        refine rj_alloc (wn0 rfl) rfl Try.zeroValue26 rfl (fun b19 => ?_)
        refine rj_stores_all (vs := valC (v19)) ⟨Try.isAgg26, Try.sizeOf26⟩ rfl (wn0 rfl) rfl rfl (valE.one (R := R) (x := v19) rfl) (by (repeat (first|exact zH _|apply zT));done) rfl ?_
        refine rv0 rfl rfl rfl (y_assign rfl) ?_
        refine rj_nil ?_
        refine hK51 _ _ _ ?_
        refine cj_env (eL 1 rfl (eL 2 rfl (eL 3 rfl (eL 4 rfl (eL 8 rfl (eL 17 rfl (eL 18 rfl (eL 19 rfl (eL 20 rfl eN))))))))) ?_
        refine cj_seq (fun K52 hK52 => ?_)
        refine cj_seq (fun K53 hK53 => ?_)
        refine cj_region ?_
        refine rv0 rfl rfl rfl (y_move rfl) ?_
        refine rv0 rfl rfl rfl (y_neq rfl rfl) ?_
        refine rj_nil ?_
        refine hK53 _ _ _ ?_
        refine cj_condt rfl (fun hc139 => ?_) (fun hc139 => ?_)
        ·have hne : ¬ e20 = 0 := by simpa using hc139
         obtain ⟨_, hev2, _⟩ := hc34.resolve_left (fun h => hne h.1)
         rw [evL_err hev hy hev2] at hres
         refine cj_seq (fun K55 hK55 => ?_)
         refine cj_region ?_
         refine rv0 rfl rfl rfl (y_build (cells := [_, _, _]) [(0, 1), (1, 1), (2, 1)] Try.underlying26 Try.zeroValue26 (fun _ => rfl) rfl rfl) ?_
         refine rv0 rfl rfl rfl (y_move rfl) ?_
         refine rj_stores_all (vs := valC (Vl.zero)) ⟨Try.isAgg26, Try.sizeOf26⟩ rfl (wn0 rfl) rfl rfl (valE.one (R := R) (x := Vl.zero) rfl) (by (repeat (first|exact zH _|apply zT));done) rfl ?_
         refine rv0 rfl rfl rfl (y_assign rfl) ?_
         refine rj_nil ?_
         refine hK55 _ _ _ ?_
         refine cj_env (eL 8 rfl (eL 9 rfl eN)) ?_
         refine cj_ret ?_
         refine hret _ _ _ ?_
         apply ej_ret Try.results44 (.cons (rv_cells ⟨Try.isAgg26, Try.sizeOf26⟩ rfl (by (repeat (first|exact zH _|apply zT));done) rfl rfl) (.cons (rv_tmp rfl) .nil)) _ [] (by (first | exact Hp.le_refl _ | assumption | exact Hp.le_trans ‹_› ‹_›)) rfl
         case hp => obtain ⟨_, _, rfl⟩ := hc34.resolve_left (fun h => hne h.1); exact ⟨by rw [← hres]; rfl, rfl⟩
         case hS => (repeat (first|exact zR _|(apply zP;focus (repeat (first|exact zH _|apply zT)))|apply zD|exact zA _ _))
        ·obtain rfl : e20 = 0 := by simpa using hc139
         obtain ⟨_, hv19⟩ := hc34.resolve_right (fun h => h.1 rfl)
         refine cj_skip ?_
         refine hK52 _ _ _ ?_
         refine cj_env (eL 1 rfl (eL 2 rfl (eL 3 rfl (eL 4 rfl (eL 8 rfl (eL 17 rfl (eL 18 rfl (eL 19 rfl eN)))))))) ?_
         refine cj_region ?_
         refine rv0 rfl rfl rfl (y_move rfl) ?_
         refine rv0 rfl rfl rfl ((y_loads_all (vs := valC v19) ⟨Try.isAgg26, Try.sizeOf26⟩ rfl rfl (by (repeat (first|exact zH _|apply zT));done))) ?_
         refine rj_buildSlice (sz := 3) (wn0 rfl) rfl Try.underlying43 Try.sizeOf26 Try.zeroValue26 rfl rfl rfl (by decide) (by decide) (fun bz => ?_)
         refine rj_append (sz := 3) (by_ := 32) ⟨Try.underlying43, _, _, rfl, rfl, rfl, rfl, rfl⟩ (wn0 rfl) rfl rfl rfl (by (repeat (first|exact zH _|apply zT));done) (src_slc (xs := valC v19) Try.underlying43 (by (repeat (first|exact zH _|apply zT));done) (valE.one (R := R) (x := v19) rfl)) rfl (by (first | omega | (dsimp only; omega) | (simp; done) | (simp; omega))) (by simp only [maxLen]; omega) (fun v145 ho145 hh145 => ?_)
         rw [valsV_snoc, show ks.length + 1 = (ks ++ [v19]).length by simp]
         refine rv0 rfl rfl rfl (y_assign rfl) ?_
         refine rj_nil ?_
         refine hK50 _ _ _ ?_
         refine cj_env (eL 1 rfl (eL 2 rfl (eL 3 rfl (eL 4 rfl (eL 8 rfl (eL 17 rfl (eL 18 rfl eN))))))) ?_
         refine cj_region ?_
         refine rv0 rfl rfl rfl (y_move rfl) ?_
         first | refine rv0 rfl rfl rfl (y_add64 rfl rfl (by (first | omega | (dsimp only; omega) | (simp; done) | (simp; omega)))) ?_ | refine rv0 rfl rfl rfl (y_add rfl rfl) ?_
         refine rv0 rfl rfl rfl (y_assign rfl) ?_
         refine rj_nil ?_
         refine ej_on (q' := roundK _ _ _ _ _ _ _) rfl ?_
         refine ej_round ((i + 1, v145, ks ++ [v19])) (⟨by dsimp only; omega, by assumption, evL_snoc hev hy hv19⟩) (by dsimp only; omega) (eC rfl (eC rfl (eC rfl (eC rfl (eC rfl (eC rfl (eC rfl eN))))))) rfl (by (repeat (first|exact zR _|(apply zP;focus (repeat (first|exact zH _|apply zT)))|apply zD|exact zA _ _)))
       ·try simp only [dT, dF, nT, nF, tF, fT] at hc123
        refine cj_exit ?_
        refine hK45 _ _ _ ?_
        refine cj_env (eL 4 rfl (eL 8 rfl (eL 17 rfl eN))) ?_
        refine cj_seq (fun K56 hK56 => ?_)
        refine cj_seq (fun K57 hK57 => ?_)
        refine cj_region ?_
        obtain rfl : i = kids.length := by (try simp at hc123); omega
        rw [List.take_length] at hev
        rw [hev] at hres
        simp only at hres
        have hkl := (evL_len hev).trans har
        have hks := hsnd ks hev
        refine rj_freeze (e := 26) (sz := 3) (n := ks.length) (v := vl) (xs := valsV ks) (by (repeat (first|exact zH _|apply zT));done) (fun R2 hR2 hfr1 hxl => ?_)
        have hfv := valsFr hfr1
        refine rv0 rfl rfl rfl (y_fieldAddr (k := 0) Try.underlying29 rfl (n := 1) (by decide) Try.sizeOf9 rfl) ?_
        first | refine rv0 rfl rfl rfl (y_load ⟨Try.isAgg9, Try.sizeOf9⟩ rfl (by (repeat (first|exact zH _|apply zT));done) rfl) ?_ | refine rv0 rfl rfl rfl (y_load_slc ⟨Try.isAgg9, Try.sizeOf9⟩ rfl (by (repeat (first|exact zH _|apply zT));done) rfl) ?_
        refine rj_nil ?_
        refine hK57 _ _ _ ?_
        refine cj_block ?_
        refine cj_seq (fun K58 hK58 => ?_)
        refine cj_region ?_
        refine rv0 rfl rfl rfl (y_seql rfl rfl) ?_
        refine rv0 rfl rfl rfl (y_assign rfl) ?_
        refine rj_nil ?_
        refine hK58 _ _ _ ?_
        refine cj_condt rfl (fun hc148 => ?_) (fun hc148 => ?_)
        ·obtain rfl := Op.is hc148 rfl
         obtain ⟨k0, k1, rfl⟩ := len2 hkl
         obtain ⟨bk, ok, ck, cs0, rfl, rfl, _, hcell0⟩ := hfv.at (i := 0) (x := k0) rfl
         obtain ⟨bk2, ok2, ck2, cs1, he2, rfl, _, hcell1⟩ := hfv.at (i := 1) (x := k1) rfl
         obtain ⟨rfl, rfl⟩ : bk = bk2 ∧ ok = ok2 := by cases he2; exact ⟨rfl, rfl⟩
         rw [vstep_or, or_ref] at hres
         refine cj_seq (fun K60 hK60 => ?_)
         refine cj_seq (fun K61 hK61 => ?_)
         refine cj_region ?_
         refine rv0 rfl rfl rfl (y_move rfl) ?_
         first | refine rv0 rfl rfl rfl (y_indexAddr Try.underlying43 Try.sizeOf26 rfl rfl (by (first | omega | (dsimp only; omega) | (simp; done) | (simp; omega)))) ?_ | refine rv0 rfl rfl rfl (y_index_slc Try.underlying43 Try.sizeOf26 rfl rfl (by (repeat (first|exact zH _|apply zT));done) (by (first | omega | (dsimp only; omega) | (simp; done) | (simp; omega)))) ?_
         refine rv0 rfl rfl rfl ((y_loads_ro ⟨Try.isAgg26, Try.sizeOf26⟩ (vs := valC k0) rfl rfl (fun j u hj => hcell0 j u hj))) ?_
         refine rv0 rfl rfl rfl (y_call Try.call27 rfl (rtrue_q _) (by (repeat (first|exact zN _|(apply zS;focus (repeat (first|exact zH _|apply zT))))))) ?_
         refine rv0 rfl rfl rfl (y_move rfl) ?_
         refine rj_part 154 rfl (fun hg154 => ?_) (fun hg154 => ?_)
         ·have o0 : trueV k0 = true := hg154
          refine rj_skip (wn2 rfl rfl rfl rfl rfl) rfl rfl ?_
          refine rj_skip (wn2 rfl rfl rfl rfl rfl) rfl rfl ?_
          refine rj_skip (wn2 rfl rfl rfl rfl rfl) rfl rfl ?_
          refine rj_skip (wn2 rfl rfl rfl rfl rfl) rfl rfl ?_
          refine rv0 rfl rfl rfl (y_pick_t rfl rfl) ?_
          refine rj_nil ?_
          refine hK61 _ _ _ ?_
          refine cj_env (eL 8 rfl (eL 17 rfl (eL 159 rfl eN))) ?_
          refine cj_cond_t rfl ?_
          refine cj_seq (fun K62 hK62 => ?_)
          refine cj_region ?_
          refine rv0 rfl rfl rfl (y_call Try.call69 rfl (rnumber_q _) (by (repeat (first|exact zN _|(apply zS;focus (repeat (first|exact zH _|apply zT))))))) ?_
          refine rj_stores_all (vs := valC (truthV true)) ⟨Try.isAgg26, Try.sizeOf26⟩ rfl (wn0 rfl) rfl rfl (valE.one (R := R) (x := truthV true) rfl) (by (repeat (first|exact zH _|apply zT));done) rfl ?_
          refine rv0 rfl rfl rfl (y_assign rfl) ?_
          refine rj_nil ?_
          refine hK62 _ _ _ ?_
          refine cj_env (eL 8 rfl (eL 9 rfl eN)) ?_
          refine cj_ret ?_
          refine hret _ _ _ ?_
          apply ej_ret Try.results44 (.cons (rv_cells ⟨Try.isAgg26, Try.sizeOf26⟩ rfl (by (repeat (first|exact zH _|apply zT));done) rfl rfl) (.cons (rv_tmp rfl) .nil)) _ [] (by (first | exact Hp.le_refl _ | assumption | exact Hp.le_trans ‹_› ‹_›)) rfl
          case hp => rw [if_pos (.inl o0)] at hres; exact ⟨by rw [← hres]; rfl, rfl⟩
          case hS => (repeat (first|exact zR _|(apply zP;focus (repeat (first|exact zH _|apply zT)))|apply zD|exact zA _ _))
         ·have o0 : ¬ trueV k0 = true := by simpa using hg154
          refine rj_val (wn1 rfl rfl rfl rfl) rfl rfl (y_move rfl) ?_
          first | refine rj_val (wn1 rfl rfl rfl rfl) rfl rfl (y_indexAddr Try.underlying43 Try.sizeOf26 rfl rfl (by (first | omega | (dsimp only; omega) | (simp; done) | (simp; omega)))) ?_ | refine rj_val (wn1 rfl rfl rfl rfl) rfl rfl (y_index_slc Try.underlying43 Try.sizeOf26 rfl rfl (by (repeat (first|exact zH _|apply zT));done) (by (first | omega | (dsimp only; omega) | (simp; done) | (simp; omega)))) ?_
          refine rj_val (wn1 rfl rfl rfl rfl) rfl rfl ((y_loads_ro ⟨Try.isAgg26, Try.sizeOf26⟩ (vs := valC k1) rfl rfl (fun j u hj => hcell1 j u hj))) ?_
          refine rj_val (wn1 rfl rfl rfl rfl) rfl rfl (y_call Try.call27 rfl (rtrue_q _) (by (repeat (first|exact zN _|(apply zS;focus (repeat (first|exact zH _|apply zT))))))) ?_
          refine rv0 rfl rfl rfl (y_pick_f rfl rfl) ?_
          refine rj_nil ?_
          refine hK61 _ _ _ ?_
          refine cj_env (eL 8 rfl (eL 17 rfl (eL 159 rfl eN))) ?_
          refine cj_condt rfl (fun hc159 => ?_) (fun hc159 => ?_)
          ·have o1 : trueV k1 = true := hc159
           refine cj_seq (fun K64 hK64 => ?_)
           refine cj_region ?_
           refine rv0 rfl rfl rfl (y_call Try.call69 rfl (rnumber_q _) (by (repeat (first|exact zN _|(apply zS;focus (repeat (first|exact zH _|apply zT))))))) ?_
           refine rj_stores_all (vs := valC (truthV true)) ⟨Try.isAgg26, Try.sizeOf26⟩ rfl (wn0 rfl) rfl rfl (valE.one (R := R) (x := truthV true) rfl) (by (repeat (first|exact zH _|apply zT));done) rfl ?_
           refine rv0 rfl rfl rfl (y_assign rfl) ?_
           refine rj_nil ?_
           refine hK64 _ _ _ ?_
           refine cj_env (eL 8 rfl (eL 9 rfl eN)) ?_
           refine cj_ret ?_
           refine hret _ _ _ ?_
           apply ej_ret Try.results44 (.cons (rv_cells ⟨Try.isAgg26, Try.sizeOf26⟩ rfl (by (repeat (first|exact zH _|apply zT));done) rfl rfl) (.cons (rv_tmp rfl) .nil)) _ [] (by (first | exact Hp.le_refl _ | assumption | exact Hp.le_trans ‹_› ‹_›)) rfl
           case hp => rw [if_pos (.inr o1)] at hres; exact ⟨by rw [← hres]; rfl, rfl⟩
           case hS => (repeat (first|exact zR _|(apply zP;focus (repeat (first|exact zH _|apply zT)))|apply zD|exact zA _ _))
          ·have o1 : ¬ trueV k1 = true := by simpa using hc159
           refine cj_skip ?_
           refine hK60 _ _ _ ?_
           refine cj_seq (fun K65 hK65 => ?_)
           refine cj_seq (fun K66 hK66 => ?_)
           refine cj_region ?_
           refine rv0 rfl rfl rfl (y_move rfl) ?_
           first | refine rv0 rfl rfl rfl (y_indexAddr Try.underlying43 Try.sizeOf26 rfl rfl (by (first | omega | (dsimp only; omega) | (simp; done) | (simp; omega)))) ?_ | refine rv0 rfl rfl rfl (y_index_slc Try.underlying43 Try.sizeOf26 rfl rfl (by (repeat (first|exact zH _|apply zT));done) (by (first | omega | (dsimp only; omega) | (simp; done) | (simp; omega)))) ?_
           refine rv0 rfl rfl rfl (y_fieldAddr (k := 0) Try.underlying26 rfl (n := 1) (by decide) Try.sizeOf3 rfl) ?_
           refine rv0 rfl rfl rfl ((y_load_ro ⟨Try.isAgg3, Try.sizeOf3⟩ rfl (hcell0 0 (.int .i64 k0.kind) rfl))) ?_
           refine rv0 rfl rfl rfl (y_eql rfl rfl) ?_
           refine rv0 rfl rfl rfl (y_move rfl) ?_
           refine rj_part 166 rfl (fun hg166 => ?_) (fun hg166 => ?_)
           ·have z0 : k0.kind = 0 := by simpa using hg166
            refine rj_skip (wn2 rfl rfl rfl rfl rfl) rfl rfl ?_
            refine rj_skip (wn2 rfl rfl rfl rfl rfl) rfl rfl ?_
            refine rj_skip (wn2 rfl rfl rfl rfl rfl) rfl rfl ?_
            refine rj_skip (wn2 rfl rfl rfl rfl rfl) rfl rfl ?_
            refine rj_skip (wn2 rfl rfl rfl rfl rfl) rfl rfl ?_
            refine rv0 rfl rfl rfl (y_pick_t rfl rfl) ?_
            refine rj_nil ?_
            refine hK66 _ _ _ ?_
            refine cj_env (eL 8 rfl (eL 172 rfl eN)) ?_
            refine cj_cond_t rfl ?_
            refine cj_seq (fun K67 hK67 => ?_)
            refine cj_region ?_
            refine rv0 rfl rfl rfl (y_build (cells := [_, _, _]) [(0, 1), (1, 1), (2, 1)] Try.underlying26 Try.zeroValue26 (fun _ => rfl) rfl rfl) ?_
            refine rj_stores_all (vs := valC (Vl.zero)) ⟨Try.isAgg26, Try.sizeOf26⟩ rfl (wn0 rfl) rfl rfl (valE.one (R := R) (x := Vl.zero) rfl) (by (repeat (first|exact zH _|apply zT));done) rfl ?_
            refine rv0 rfl rfl rfl (y_assign rfl) ?_
            refine rj_nil ?_
            refine hK67 _ _ _ ?_
            refine cj_ret ?_
            refine hret _ _ _ ?_
            apply ej_ret Try.results44 (.cons (rv_cells ⟨Try.isAgg26, Try.sizeOf26⟩ rfl (by (repeat (first|exact zH _|apply zT));done) rfl rfl) (.cons (rv_tmp rfl) .nil)) _ [] (by (first | exact Hp.le_refl _ | assumption | exact Hp.le_trans ‹_› ‹_›)) rfl
            case hp => rw [if_neg (by rintro (h | h); exact o0 h; exact o1 h), if_pos (.inl z0)] at hres; exact ⟨by rw [← hres]; rfl, rfl⟩
            case hS => (repeat (first|exact zR _|(apply zP;focus (repeat (first|exact zH _|apply zT)))|apply zD|exact zA _ _))
           ·have z0 : ¬ k0.kind = 0 := by simpa using hg166
            refine rj_val (wn1 rfl rfl rfl rfl) rfl rfl (y_move rfl) ?_
            first | refine rj_val (wn1 rfl rfl rfl rfl) rfl rfl (y_indexAddr Try.underlying43 Try.sizeOf26 rfl rfl (by (first | omega | (dsimp only; omega) | (simp; done) | (simp; omega)))) ?_ | refine rj_val (wn1 rfl rfl rfl rfl) rfl rfl (y_index_slc Try.underlying43 Try.sizeOf26 rfl rfl (by (repeat (first|exact zH _|apply zT));done) (by (first | omega | (dsimp only; omega) | (simp; done) | (simp; omega)))) ?_
            refine rj_val (wn1 rfl rfl rfl rfl) rfl rfl (y_fieldAddr (k := 0) Try.underlying26 rfl (n := 1) (by decide) Try.sizeOf3 rfl) ?_
            refine rj_val (wn1 rfl rfl rfl rfl) rfl rfl ((y_load_ro ⟨Try.isAgg3, Try.sizeOf3⟩ rfl (hcell1 0 (.int .i64 k1.kind) rfl))) ?_
            refine rj_val (wn1 rfl rfl rfl rfl) rfl rfl (y_eql rfl rfl) ?_
            refine rv0 rfl rfl rfl (y_pick_f rfl rfl) ?_
            refine rj_nil ?_
            refine hK66 _ _ _ ?_
            refine cj_env (eL 8 rfl (eL 172 rfl eN)) ?_
            refine cj_condt rfl (fun hc172 => ?_) (fun hc172 => ?_)
            ·have z1 : k1.kind = 0 := by simpa using hc172
             refine cj_seq (fun K69 hK69 => ?_)
             refine cj_region ?_
             refine rv0 rfl rfl rfl (y_build (cells := [_, _, _]) [(0, 1), (1, 1), (2, 1)] Try.underlying26 Try.zeroValue26 (fun _ => rfl) rfl rfl) ?_
             refine rj_stores_all (vs := valC (Vl.zero)) ⟨Try.isAgg26, Try.sizeOf26⟩ rfl (wn0 rfl) rfl rfl (valE.one (R := R) (x := Vl.zero) rfl) (by (repeat (first|exact zH _|apply zT));done) rfl ?_
             refine rv0 rfl rfl rfl (y_assign rfl) ?_
             refine rj_nil ?_
             refine hK69 _ _ _ ?_
             refine cj_ret ?_
             refine hret _ _ _ ?_
             apply ej_ret Try.results44 (.cons (rv_cells ⟨Try.isAgg26, Try.sizeOf26⟩ rfl (by (repeat (first|exact zH _|apply zT));done) rfl rfl) (.cons (rv_tmp rfl) .nil)) _ [] (by (first | exact Hp.le_refl _ | assumption | exact Hp.le_trans ‹_› ‹_›)) rfl
             case hp => rw [if_neg (by rintro (h | h); exact o0 h; exact o1 h), if_pos (.inr z1)] at hres; exact ⟨by rw [← hres]; rfl, rfl⟩
             case hS => (repeat (first|exact zR _|(apply zP;focus (repeat (first|exact zH _|apply zT)))|apply zD|exact zA _ _))
            ·have z1 : ¬ k1.kind = 0 := by simpa using hc172
             refine cj_skip ?_
             refine hK65 _ _ _ ?_
             refine cj_seq (fun K70 hK70 => ?_)
             refine cj_region ?_
             refine rv0 rfl rfl rfl (y_call Try.call69 rfl (rnumber_q _) (by (repeat (first|exact zN _|(apply zS;focus (repeat (first|exact zH _|apply zT))))))) ?_
             refine rj_stores_all (vs := valC (truthV false)) ⟨Try.isAgg26, Try.sizeOf26⟩ rfl (wn0 rfl) rfl rfl (valE.one (R := R) (x := truthV false) rfl) (by (repeat (first|exact zH _|apply zT));done) rfl ?_
             refine rv0 rfl rfl rfl (y_assign rfl) ?_
             refine rj_nil ?_
             refine hK70 _ _ _ ?_
             refine cj_ret ?_
             refine hret _ _ _ ?_
             apply ej_ret Try.results44 (.cons (rv_cells ⟨Try.isAgg26, Try.sizeOf26⟩ rfl (by (repeat (first|exact zH _|apply zT));done) rfl rfl) (.cons (rv_tmp rfl) .nil)) _ [] (by (first | exact Hp.le_refl _ | assumption | exact Hp.le_trans ‹_› ‹_›)) rfl
             case hp => rw [if_neg (by rintro (h | h); exact o0 h; exact o1 h), if_neg (by rintro (h | h); exact z0 h; exact z1 h)] at hres; exact ⟨by rw [← hres]; rfl, rfl⟩
             case hS => (repeat (first|exact zR _|(apply zP;focus (repeat (first|exact zH _|apply zT)))|apply zD|exact zA _ _))
        ·have nor : ¬ op = .or := by rintro rfl; simp [Op.str] at hc148
         refine cj_seq (fun K71 hK71 => ?_)
         refine cj_region ?_
         refine rv0 rfl rfl rfl (y_seql rfl rfl) ?_
         refine rv0 rfl rfl rfl (y_assign rfl) ?_
         refine rj_nil ?_
         refine hK71 _ _ _ ?_
         refine cj_env (eL 4 rfl (eL 8 rfl (eL 17 rfl (eL 147 rfl (eL 175 rfl eN))))) ?_
         refine cj_condt rfl (fun hc175 => ?_) (fun hc175 => ?_)
         ·obtain rfl := Op.is hc175 rfl
          obtain ⟨k0, k1, rfl⟩ := len2 hkl
          obtain ⟨bk, ok, ck, cs0, rfl, rfl, _, hcell0⟩ := hfv.at (i := 0) (x := k0) rfl
          obtain ⟨bk2, ok2, ck2, cs1, he2, rfl, _, hcell1⟩ := hfv.at (i := 1) (x := k1) rfl
          obtain ⟨rfl, rfl⟩ : bk = bk2 ∧ ok = ok2 := by cases he2; exact ⟨rfl, rfl⟩
          have hck2 := cond_kids hck hw rfl hro hkk hev
          rw [vstep_and, and_ref (hck2 k0 (by simp)) (hck2 k1 (by simp))] at hres
          refine cj_seq (fun K73 hK73 => ?_)
          refine cj_seq (fun K74 hK74 => ?_)
          refine cj_region ?_
          refine rv0 rfl rfl rfl (y_move rfl) ?_
          first | refine rv0 rfl rfl rfl (y_indexAddr Try.underlying43 Try.sizeOf26 rfl rfl (by (first | omega | (dsimp only; omega) | (simp; done) | (simp; omega)))) ?_ | refine rv0 rfl rfl rfl (y_index_slc Try.underlying43 Try.sizeOf26 rfl rfl (by (repeat (first|exact zH _|apply zT));done) (by (first | omega | (dsimp only; omega) | (simp; done) | (simp; omega)))) ?_
          refine rv0 rfl rfl rfl ((y_loads_ro ⟨Try.isAgg26, Try.sizeOf26⟩ (vs := valC k0) rfl rfl (fun j u hj => hcell0 j u hj))) ?_
          refine rv0 rfl rfl rfl (y_call Try.call71 rfl (lie_q _) (by (repeat (first|exact zN _|(apply zS;focus (repeat (first|exact zH _|apply zT))))))) ?_
          refine rv0 rfl rfl rfl (y_move rfl) ?_
          refine rj_part 181 rfl (fun hg181 => ?_) (fun hg181 => ?_)
          ·have o0 : lieV k0 = true := hg181
           refine rj_skip (wn2 rfl rfl rfl rfl rfl) rfl rfl ?_
           refine rj_skip (wn2 rfl rfl rfl rfl rfl) rfl rfl ?_
           refine rj_skip (wn2 rfl rfl rfl rfl rfl) rfl rfl ?_
           refine rj_skip (wn2 rfl rfl rfl rfl rfl) rfl rfl ?_
           refine rv0 rfl rfl rfl (y_pick_t rfl rfl) ?_
           refine rj_nil ?_
           refine hK74 _ _ _ ?_
           refine cj_env (eL 8 rfl (eL 17 rfl (eL 186 rfl eN))) ?_
           refine cj_cond_t rfl ?_
           refine cj_seq (fun K75 hK75 => ?_)
           refine cj_region ?_
           refine rv0 rfl rfl rfl (y_call Try.call69 rfl (rnumber_q _) (by (repeat (first|exact zN _|(apply zS;focus (repeat (first|exact zH _|apply zT))))))) ?_
           refine rj_stores_all (vs := valC (truthV false)) ⟨Try.isAgg26, Try.sizeOf26⟩ rfl (wn0 rfl) rfl rfl (valE.one (R := R) (x := truthV false) rfl) (by (repeat (first|exact zH _|apply zT));done) rfl ?_
           refine rv0 rfl rfl rfl (y_assign rfl) ?_
           refine rj_nil ?_
           refine hK75 _ _ _ ?_
           refine cj_env (eL 8 rfl (eL 9 rfl eN)) ?_
           refine cj_ret ?_
           refine hret _ _ _ ?_
           apply ej_ret Try.results44 (.cons (rv_cells ⟨Try.isAgg26, Try.sizeOf26⟩ rfl (by (repeat (first|exact zH _|apply zT));done) rfl rfl) (.cons (rv_tmp rfl) .nil)) _ [] (by (first | exact Hp.le_refl _ | assumption | exact Hp.le_trans ‹_› ‹_›)) rfl
           case hp => rw [if_pos (.inl o0)] at hres; exact ⟨by rw [← hres]; rfl, rfl⟩
           case hS => (repeat (first|exact zR _|(apply zP;focus (repeat (first|exact zH _|apply zT)))|apply zD|exact zA _ _))
          ·have o0 : ¬ lieV k0 = true := by simpa using hg181
           refine rj_val (wn1 rfl rfl rfl rfl) rfl rfl (y_move rfl) ?_
           first | refine rj_val (wn1 rfl rfl rfl rfl) rfl rfl (y_indexAddr Try.underlying43 Try.sizeOf26 rfl rfl (by (first | omega | (dsimp only; omega) | (simp; done) | (simp; omega)))) ?_ | refine rj_val (wn1 rfl rfl rfl rfl) rfl rfl (y_index_slc Try.underlying43 Try.sizeOf26 rfl rfl (by (repeat (first|exact zH _|apply zT));done) (by (first | omega | (dsimp only; omega) | (simp; done) | (simp; omega)))) ?_
           refine rj_val (wn1 rfl rfl rfl rfl) rfl rfl ((y_loads_ro ⟨Try.isAgg26, Try.sizeOf26⟩ (vs := valC k1) rfl rfl (fun j u hj => hcell1 j u hj))) ?_
           refine rj_val (wn1 rfl rfl rfl rfl) rfl rfl (y_call Try.call71 rfl (lie_q _) (by (repeat (first|exact zN _|(apply zS;focus (repeat (first|exact zH _|apply zT))))))) ?_
           refine rv0 rfl rfl rfl (y_pick_f rfl rfl) ?_
           refine rj_nil ?_
           refine hK74 _ _ _ ?_
           refine cj_env (eL 8 rfl (eL 17 rfl (eL 186 rfl eN))) ?_
           refine cj_condt rfl (fun hc186 => ?_) (fun hc186 => ?_)
           ·have o1 : lieV k1 = true := hc186
            refine cj_seq (fun K77 hK77 => ?_)
            refine cj_region ?_
            refine rv0 rfl rfl rfl (y_call Try.call69 rfl (rnumber_q _) (by (repeat (first|exact zN _|(apply zS;focus (repeat (first|exact zH _|apply zT))))))) ?_
            refine rj_stores_all (vs := valC (truthV false)) ⟨Try.isAgg26, Try.sizeOf26⟩ rfl (wn0 rfl) rfl rfl (valE.one (R := R) (x := truthV false) rfl) (by (repeat (first|exact zH _|apply zT));done) rfl ?_
            refine rv0 rfl rfl rfl (y_assign rfl) ?_
            refine rj_nil ?_
            refine hK77 _ _ _ ?_
            refine cj_env (eL 8 rfl (eL 9 rfl eN)) ?_
            refine cj_ret ?_
            refine hret _ _ _ ?_
            apply ej_ret Try.results44 (.cons (rv_cells ⟨Try.isAgg26, Try.sizeOf26⟩ rfl (by (repeat (first|exact zH _|apply zT));done) rfl rfl) (.cons (rv_tmp rfl) .nil)) _ [] (by (first | exact Hp.le_refl _ | assumption | exact Hp.le_trans ‹_› ‹_›)) rfl
            case hp => rw [if_pos (.inr o1)] at hres; exact ⟨by rw [← hres]; rfl, rfl⟩
            case hS => (repeat (first|exact zR _|(apply zP;focus (repeat (first|exact zH _|apply zT)))|apply zD|exact zA _ _))
           ·have o1 : ¬ lieV k1 = true := by simpa using hc186
            refine cj_skip ?_
            refine hK73 _ _ _ ?_
            refine cj_seq (fun K78 hK78 => ?_)
            refine cj_seq (fun K79 hK79 => ?_)
            refine cj_region ?_
            refine rv0 rfl rfl rfl (y_move rfl) ?_
            first | refine rv0 rfl rfl rfl (y_indexAddr Try.underlying43 Try.sizeOf26 rfl rfl (by (first | omega | (dsimp only; omega) | (simp; done) | (simp; omega)))) ?_ | refine rv0 rfl rfl rfl (y_index_slc Try.underlying43 Try.sizeOf26 rfl rfl (by (repeat (first|exact zH _|apply zT));done) (by (first | omega | (dsimp only; omega) | (simp; done) | (simp; omega)))) ?_
            refine rv0 rfl rfl rfl (y_fieldAddr (k := 0) Try.underlying26 rfl (n := 1) (by decide) Try.sizeOf3 rfl) ?_
            refine rv0 rfl rfl rfl ((y_load_ro ⟨Try.isAgg3, Try.sizeOf3⟩ rfl (hcell0 0 (.int .i64 k0.kind) rfl))) ?_
            refine rv0 rfl rfl rfl (y_eql rfl rfl) ?_
            refine rv0 rfl rfl rfl (y_move rfl) ?_
            refine rj_part 193 rfl (fun hg193 => ?_) (fun hg193 => ?_)
            ·have z0 : k0.kind = 0 := by simpa using hg193
             refine rj_skip (wn2 rfl rfl rfl rfl rfl) rfl rfl ?_
             refine rj_skip (wn2 rfl rfl rfl rfl rfl) rfl rfl ?_
             refine rj_skip (wn2 rfl rfl rfl rfl rfl) rfl rfl ?_
             refine rj_skip (wn2 rfl rfl rfl rfl rfl) rfl rfl ?_
             refine rj_skip (wn2 rfl rfl rfl rfl rfl) rfl rfl ?_
             refine rv0 rfl rfl rfl (y_pick_t rfl rfl) ?_
             refine rj_nil ?_
             refine hK79 _ _ _ ?_
             refine cj_env (eL 8 rfl (eL 199 rfl eN)) ?_
             refine cj_cond_t rfl ?_
             refine cj_seq (fun K80 hK80 => ?_)
             refine cj_region ?_
             refine rv0 rfl rfl rfl (y_build (cells := [_, _, _]) [(0, 1), (1, 1), (2, 1)] Try.underlying26 Try.zeroValue26 (fun _ => rfl) rfl rfl) ?_
             refine rj_stores_all (vs := valC (Vl.zero)) ⟨Try.isAgg26, Try.sizeOf26⟩ rfl (wn0 rfl) rfl rfl (valE.one (R := R) (x := Vl.zero) rfl) (by (repeat (first|exact zH _|apply zT));done) rfl ?_
             refine rv0 rfl rfl rfl (y_assign rfl) ?_
             refine rj_nil ?_
             refine hK80 _ _ _ ?_
             refine cj_ret ?_
             refine hret _ _ _ ?_
             apply ej_ret Try.results44 (.cons (rv_cells ⟨Try.isAgg26, Try.sizeOf26⟩ rfl (by (repeat (first|exact zH _|apply zT));done) rfl rfl) (.cons (rv_tmp rfl) .nil)) _ [] (by (first | exact Hp.le_refl _ | assumption | exact Hp.le_trans ‹_› ‹_›)) rfl
             case hp => rw [if_neg (by rintro (h | h); exact o0 h; exact o1 h), if_pos (.inl z0)] at hres; exact ⟨by rw [← hres]; rfl, rfl⟩
             case hS => (repeat (first|exact zR _|(apply zP;focus (repeat (first|exact zH _|apply zT)))|apply zD|exact zA _ _))
            ·have z0 : ¬ k0.kind = 0 := by simpa using hg193
             refine rj_val (wn1 rfl rfl rfl rfl) rfl rfl (y_move rfl) ?_
             first | refine rj_val (wn1 rfl rfl rfl rfl) rfl rfl (y_indexAddr Try.underlying43 Try.sizeOf26 rfl rfl (by (first | omega | (dsimp only; omega) | (simp; done) | (simp; omega)))) ?_ | refine rj_val (wn1 rfl rfl rfl rfl) rfl rfl (y_index_slc Try.underlying43 Try.sizeOf26 rfl rfl (by (repeat (first|exact zH _|apply zT));done) (by (first | omega | (dsimp only; omega) | (simp; done) | (simp; omega)))) ?_
             refine rj_val (wn1 rfl rfl rfl rfl) rfl rfl (y_fieldAddr (k := 0) Try.underlying26 rfl (n := 1) (by decide) Try.sizeOf3 rfl) ?_
             refine rj_val (wn1 rfl rfl rfl rfl) rfl rfl ((y_load_ro ⟨Try.isAgg3, Try.sizeOf3⟩ rfl (hcell1 0 (.int .i64 k1.kind) rfl))) ?_
             refine rj_val (wn1 rfl rfl rfl rfl) rfl rfl (y_eql rfl rfl) ?_
             refine rv0 rfl rfl rfl (y_pick_f rfl rfl) ?_
             refine rj_nil ?_
             refine hK79 _ _ _ ?_
             refine cj_env (eL 8 rfl (eL 199 rfl eN)) ?_
             refine cj_condt rfl (fun hc199 => ?_) (fun hc199 => ?_)
             ·have z1 : k1.kind = 0 := by simpa using hc199
              refine cj_seq (fun K82 hK82 => ?_)
              refine cj_region ?_
              refine rv0 rfl rfl rfl (y_build (cells := [_, _, _]) [(0, 1), (1, 1), (2, 1)] Try.underlying26 Try.zeroValue26 (fun _ => rfl) rfl rfl) ?_
              refine rj_stores_all (vs := valC (Vl.zero)) ⟨Try.isAgg26, Try.sizeOf26⟩ rfl (wn0 rfl) rfl rfl (valE.one (R := R) (x := Vl.zero) rfl) (by (repeat (first|exact zH _|apply zT));done) rfl ?_
              refine rv0 rfl rfl rfl (y_assign rfl) ?_
              refine rj_nil ?_
              refine hK82 _ _ _ ?_
              refine cj_ret ?_
              refine hret _ _ _ ?_
              apply ej_ret Try.results44 (.cons (rv_cells ⟨Try.isAgg26, Try.sizeOf26⟩ rfl (by (repeat (first|exact zH _|apply zT));done) rfl rfl) (.cons (rv_tmp rfl) .nil)) _ [] (by (first | exact Hp.le_refl _ | assumption | exact Hp.le_trans ‹_› ‹_›)) rfl
              case hp => rw [if_neg (by rintro (h | h); exact o0 h; exact o1 h), if_pos (.inr z1)] at hres; exact ⟨by rw [← hres]; rfl, rfl⟩
              case hS => (repeat (first|exact zR _|(apply zP;focus (repeat (first|exact zH _|apply zT)))|apply zD|exact zA _ _))
             ·have z1 : ¬ k1.kind = 0 := by simpa using hc199
              refine cj_skip ?_
              refine hK78 _ _ _ ?_
              refine cj_seq (fun K83 hK83 => ?_)
              refine cj_region ?_
              refine rv0 rfl rfl rfl (y_call Try.call69 rfl (rnumber_q _) (by (repeat (first|exact zN _|(apply zS;focus (repeat (first|exact zH _|apply zT))))))) ?_
              refine rj_stores_all (vs := valC (truthV true)) ⟨Try.isAgg26, Try.sizeOf26⟩ rfl (wn0 rfl) rfl rfl (valE.one (R := R) (x := truthV true) rfl) (by (repeat (first|exact zH _|apply zT));done) rfl ?_
              refine rv0 rfl rfl rfl (y_assign rfl) ?_
              refine rj_nil ?_
              refine hK83 _ _ _ ?_
              refine cj_ret ?_
              refine hret _ _ _ ?_
              apply ej_ret Try.results44 (.cons (rv_cells ⟨Try.isAgg26, Try.sizeOf26⟩ rfl (by (repeat (first|exact zH _|apply zT));done) rfl rfl) (.cons (rv_tmp rfl) .nil)) _ [] (by (first | exact Hp.le_refl _ | assumption | exact Hp.le_trans ‹_› ‹_›)) rfl
              case hp => rw [if_neg (by rintro (h | h); exact o0 h; exact o1 h), if_neg (by rintro (h | h); exact z0 h; exact z1 h)] at hres; exact ⟨by rw [← hres]; rfl, rfl⟩
              case hS => (repeat (first|exact zR _|(apply zP;focus (repeat (first|exact zH _|apply zT)))|apply zD|exact zA _ _))
         ·have nand : ¬ op = .and := by rintro rfl; simp [Op.str] at hc175
          refine cj_seq (fun K84 hK84 => ?_)
          refine cj_region ?_
          refine rv0 rfl rfl rfl (y_seql rfl rfl) ?_
          refine rv0 rfl rfl rfl (y_assign rfl) ?_
          refine rj_nil ?_
          refine hK84 _ _ _ ?_
          refine cj_condt rfl (fun hc202 => ?_) (fun hc202 => ?_)
          ·obtain rfl := Op.is hc202 rfl
           obtain ⟨k0, rfl⟩ := List.length_eq_one_iff.1 hkl
           obtain ⟨bk, ok, ck, cs0, rfl, rfl, _, hcell0⟩ := hfv.at (i := 0) (x := k0) rfl
           have hck2 := cond_kids hck hw rfl hro hkk hev
           rw [vstep_not (hck2 k0 (by simp))] at hres
           refine cj_seq (fun K86 hK86 => ?_)
           refine cj_seq (fun K87 hK87 => ?_)
           refine cj_region ?_
           refine rv0 rfl rfl rfl (y_move rfl) ?_
           first | refine rv0 rfl rfl rfl (y_indexAddr Try.underlying43 Try.sizeOf26 rfl rfl (by (first | omega | (dsimp only; omega) | (simp; done) | (simp; omega)))) ?_ | refine rv0 rfl rfl rfl (y_index_slc Try.underlying43 Try.sizeOf26 rfl rfl (by (repeat (first|exact zH _|apply zT));done) (by (first | omega | (dsimp only; omega) | (simp; done) | (simp; omega)))) ?_
           refine rv0 rfl rfl rfl (y_fieldAddr (k := 0) Try.underlying26 rfl (n := 1) (by decide) Try.sizeOf3 rfl) ?_
           refine rv0 rfl rfl rfl ((y_load_ro ⟨Try.isAgg3, Try.sizeOf3⟩ rfl (hcell0 0 (.int .i64 k0.kind) rfl))) ?_
           refine rv0 rfl rfl rfl (y_eql rfl rfl) ?_
           refine rj_nil ?_
           refine hK87 _ _ _ ?_
           refine cj_env (eL 8 rfl (eL 17 rfl (eL 208 rfl eN))) ?_
           refine cj_condt rfl (fun hc208 => ?_) (fun hc208 => ?_)
           ·have z0 : k0.kind = 0 := by simpa using hc208
            refine cj_seq (fun K89 hK89 => ?_)
            refine cj_region ?_
            refine rv0 rfl rfl rfl (y_build (cells := [_, _, _]) [(0, 1), (1, 1), (2, 1)] Try.underlying26 Try.zeroValue26 (fun _ => rfl) rfl rfl) ?_
            refine rj_stores_all (vs := valC (Vl.zero)) ⟨Try.isAgg26, Try.sizeOf26⟩ rfl (wn0 rfl) rfl rfl (valE.one (R := R) (x := Vl.zero) rfl) (by (repeat (first|exact zH _|apply zT));done) rfl ?_
            refine rv0 rfl rfl rfl (y_assign rfl) ?_
            refine rj_nil ?_
            refine hK89 _ _ _ ?_
            refine cj_env (eL 8 rfl (eL 9 rfl eN)) ?_
            refine cj_ret ?_
            refine hret _ _ _ ?_
            apply ej_ret Try.results44 (.cons (rv_cells ⟨Try.isAgg26, Try.sizeOf26⟩ rfl (by (repeat (first|exact zH _|apply zT));done) rfl rfl) (.cons (rv_tmp rfl) .nil)) _ [] (by (first | exact Hp.le_refl _ | assumption | exact Hp.le_trans ‹_› ‹_›)) rfl
            case hp => rw [if_pos z0] at hres; exact ⟨by rw [← hres]; rfl, rfl⟩
            case hS => (repeat (first|exact zR _|(apply zP;focus (repeat (first|exact zH _|apply zT)))|apply zD|exact zA _ _))
           ·have z0 : ¬ k0.kind = 0 := by simpa using hc208
            refine cj_skip ?_
            refine hK86 _ _ _ ?_
            refine cj_seq (fun K90 hK90 => ?_)
            refine cj_region ?_
            refine rv0 rfl rfl rfl (y_move rfl) ?_
            first | refine rv0 rfl rfl rfl (y_indexAddr Try.underlying43 Try.sizeOf26 rfl rfl (by (first | omega | (dsimp only; omega) | (simp; done) | (simp; omega)))) ?_ | refine rv0 rfl rfl rfl (y_index_slc Try.underlying43 Try.sizeOf26 rfl rfl (by (repeat (first|exact zH _|apply zT));done) (by (first | omega | (dsimp only; omega) | (simp; done) | (simp; omega)))) ?_
            refine rv0 rfl rfl rfl (y_fieldAddr (k := 1) Try.underlying26 rfl (n := 1) (by decide) Try.sizeOf2 rfl) ?_
            refine rv0 rfl rfl rfl ((y_load_ro ⟨Try.isAgg2, Try.sizeOf2⟩ rfl (hcell0 1 (.int .i64 k0.n) rfl))) ?_
            refine rv0 rfl rfl rfl (y_eql rfl rfl) ?_
            refine rv0 rfl rfl rfl (y_call Try.call72 rfl (rtruth_q _) (by (repeat (first|exact zN _|(apply zS;focus (repeat (first|exact zH _|apply zT))))))) ?_
            refine rj_stores_all (vs := valC (truthV (decide (k0.n = 0)))) ⟨Try.isAgg26, Try.sizeOf26⟩ rfl (wn0 rfl) rfl rfl (valE.one (R := R) (x := truthV (decide (k0.n = 0))) rfl) (by (repeat (first|exact zH _|apply zT));done) rfl ?_
            refine rv0 rfl rfl rfl (y_assign rfl) ?_
            refine rj_nil ?_
            refine hK90 _ _ _ ?_
            refine cj_env (eL 8 rfl (eL 9 rfl eN)) ?_
            refine cj_ret ?_
            refine hret _ _ _ ?_
            apply ej_ret Try.results44 (.cons (rv_cells ⟨Try.isAgg26, Try.sizeOf26⟩ rfl (by (repeat (first|exact zH _|apply zT));done) rfl rfl) (.cons (rv_tmp rfl) .nil)) _ [] (by (first | exact Hp.le_refl _ | assumption | exact Hp.le_trans ‹_› ‹_›)) rfl
            case hp => rw [if_neg z0] at hres; exact ⟨by rw [← hres]; rfl, rfl⟩
            case hS => (repeat (first|exact zR _|(apply zP;focus (repeat (first|exact zH _|apply zT)))|apply zD|exact zA _ _))
          ·have nnot : ¬ op = .not := by rintro rfl; simp [Op.str] at hc202
           refine cj_seq (fun K91 hK91 => ?_)
           refine cj_region ?_
           refine rv0 rfl rfl rfl (y_seql rfl rfl) ?_
           refine rv0 rfl rfl rfl (y_assign rfl) ?_
           refine rj_nil ?_
           refine hK91 _ _ _ ?_
           refine cj_env (eL 4 rfl (eL 8 rfl (eL 17 rfl (eL 147 rfl (eL 216 rfl eN))))) ?_
           refine cj_condt rfl (fun hc216 => ?_) (fun hc216 => ?_)
           ·obtain rfl := Op.is hc216 rfl
            obtain ⟨k0, rfl⟩ := List.length_eq_one_iff.1 hkl
            obtain ⟨bk, ok, ck, cs0, rfl, rfl, _, hcell0⟩ := hfv.at (i := 0) (x := k0) rfl
            rw [vstep_isnull] at hres
            refine cj_seq (fun K93 hK93 => ?_)
            refine cj_region ?_
            refine rv0 rfl rfl rfl (y_move rfl) ?_
            first | refine rv0 rfl rfl rfl (y_indexAddr Try.underlying43 Try.sizeOf26 rfl rfl (by (first | omega | (dsimp only; omega) | (simp; done) | (simp; omega)))) ?_ | refine rv0 rfl rfl rfl (y_index_slc Try.underlying43 Try.sizeOf26 rfl rfl (by (repeat (first|exact zH _|apply zT));done) (by (first | omega | (dsimp only; omega) | (simp; done) | (simp; omega)))) ?_
            refine rv0 rfl rfl rfl (y_fieldAddr (k := 0) Try.underlying26 rfl (n := 1) (by decide) Try.sizeOf3 rfl) ?_
            refine rv0 rfl rfl rfl ((y_load_ro ⟨Try.isAgg3, Try.sizeOf3⟩ rfl (hcell0 0 (.int .i64 k0.kind) rfl))) ?_
            refine rv0 rfl rfl rfl (y_eql rfl rfl) ?_
            refine rv0 rfl rfl rfl (y_call Try.call72 rfl (rtruth_q _) (by (repeat (first|exact zN _|(apply zS;focus (repeat (first|exact zH _|apply zT))))))) ?_
            refine rj_stores_all (vs := valC (truthV (decide (k0.kind = 0)))) ⟨Try.isAgg26, Try.sizeOf26⟩ rfl (wn0 rfl) rfl rfl (valE.one (R := R) (x := truthV (decide (k0.kind = 0))) rfl) (by (repeat (first|exact zH _|apply zT));done) rfl ?_
            refine rv0 rfl rfl rfl (y_assign rfl) ?_
            refine rj_nil ?_
            refine hK93 _ _ _ ?_
            refine cj_env (eL 8 rfl (eL 9 rfl eN)) ?_
            refine cj_ret ?_
            refine hret _ _ _ ?_
            apply ej_ret Try.results44 (.cons (rv_cells ⟨Try.isAgg26, Try.sizeOf26⟩ rfl (by (repeat (first|exact zH _|apply zT));done) rfl rfl) (.cons (rv_tmp rfl) .nil)) _ [] (by (first | exact Hp.le_refl _ | assumption | exact Hp.le_trans ‹_› ‹_›)) rfl
            case hp => exact ⟨by rw [← hres]; rfl, rfl⟩
            case hS => (repeat (first|exact zR _|(apply zP;focus (repeat (first|exact zH _|apply zT)))|apply zD|exact zA _ _))
           ·have nnul : ¬ op = .isnull := by rintro rfl; simp [Op.str] at hc216
            refine cj_seq (fun K94 hK94 => ?_)
            refine cj_region ?_
            refine rv0 rfl rfl rfl (y_seql rfl rfl) ?_
            refine rv0 rfl rfl rfl (y_assign rfl) ?_
            refine rj_nil ?_
            refine hK94 _ _ _ ?_
            refine cj_env (eL 4 rfl (eL 8 rfl (eL 17 rfl (eL 224 rfl eN)))) ?_
            refine cj_condt rfl (fun hc224 => ?_) (fun hc224 => ?_)
            ·obtain rfl := Op.is hc224 rfl
             obtain ⟨k0, rfl⟩ := List.length_eq_one_iff.1 hkl
             obtain ⟨bk, ok, ck, cs0, rfl, rfl, _, hcell0⟩ := hfv.at (i := 0) (x := k0) rfl
             rw [← sign_neg] at hres
             refine cj_seq (fun K96 hK96 => ?_)
             obtain ⟨v58, e58, h58, hc58⟩ := pairV_split (r := signV .sub ⟨1, 0, []⟩ k0) (fun e he => by rw [sign_neg] at he; exact vstep_e he)
             refine cj_mixt [0, 1, 2, 3] [] [4, 5, 6, 7, 8] [] (by rw [List.append_nil]; exact .refl _) (by kernel_rfl) (by kernel_rfl) ?_
             refine fj_val rfl rfl rfl (wn0 rfl) (fun R1 hR1 G => (y_call Try.call69 rfl (rnumber_q _) (by (repeat (first|exact zN _|(apply zS;focus (repeat (first|exact zH _|apply zT)))))))) ?_
             refine fj_val rfl rfl rfl (wn0 rfl) (fun R1 hR1 G => (y_move rfl)) ?_
             first | refine fj_val rfl rfl rfl (wn0 rfl) (fun R1 hR1 G => (y_indexAddr Try.underlying43 Try.sizeOf26 rfl rfl (by (first | omega | (dsimp only; omega) | (simp; done) | (simp; omega))))) ?_ | refine fj_val rfl rfl rfl (wn0 rfl) (fun R1 hR1 G => (y_index_slc Try.underlying43 Try.sizeOf26 rfl rfl (by (repeat (first|exact zH _|apply zT));done) (by (first | omega | (dsimp only; omega) | (simp; done) | (simp; omega))))) ?_
             refine fj_val rfl rfl rfl (wn0 rfl) (fun R1 hR1 G => (y_loads_ro ⟨Try.isAgg26, Try.sizeOf26⟩ (vs := valC k0) rfl rfl (fun j u hj => cell_mono hR1 (hcell0 j u hj)))) ?_
             refine fj_nil ?_
             refine xj_nil ?_
             try simp only [List.cons_append, List.nil_append, List.append_nil]
             refine tj_all (rs := [4]) (by kernel_rfl) (by decide) ⟨⟨_, rfl, ?_⟩, trivial⟩
             refine rv0 rfl rfl rfl (((y_call Try.call73 rfl (sign_q .sub ⟨1, 0, []⟩ k0 rfl (.num (by decide)) (hks k0 (by simp))) (by (repeat (first|exact zN _|(apply zS;focus (repeat (first|exact zH _|apply zT))))))).to h58)) ?_
             refine rj_tj ?_
             refine tj_take (i := 5) rfl rfl rfl (by kernel_rfl) (by kernel_rfl) (by kernel_rfl) (wn0 rfl) rfl (fun σ => (y_extract rfl rfl)) ?_
             refine tj_all (rs := [6]) (by kernel_rfl) (by decide) ⟨⟨_, rfl, ?_⟩, trivial⟩
             refine rv0 rfl rfl rfl (y_extract rfl rfl) ?_
             refine rj_tj ?_
             refine tj_all (rs := [7]) (by kernel_rfl) (by decide) ⟨⟨_, rfl, ?_⟩, trivial⟩
             refine rj_stores_all (vs := valC (v58)) ⟨Try.isAgg26, Try.sizeOf26⟩ rfl (wn0 rfl) rfl rfl (valE.one (R := R) (x := v58) rfl) (by (repeat (first|exact zH _|apply zT));done) rfl ?_
             refine rj_tj ?_
             refine tj_all (rs := [8]) (by kernel_rfl) (by decide) ⟨⟨_, rfl, ?_⟩, trivial⟩
             refine rv0 rfl rfl rfl (y_assign rfl) ?_
             refine rj_tj ?_
             refine tj_done (by kernel_rfl) ?_
             refine hK96 _ _ _ ?_
             refine cj_env (eL 8 rfl (eL 9 rfl eN)) ?_
             refine cj_ret ?_
             refine hret _ _ _ ?_
             apply ej_ret Try.results44 (.cons (rv_cells ⟨Try.isAgg26, Try.sizeOf26⟩ rfl (by (repeat (first|exact zH _|apply zT));done) rfl rfl) (.cons (rv_tmp rfl) .nil)) _ [] (by (first | exact Hp.le_refl _ | assumption | exact Hp.le_trans ‹_› ‹_›)) rfl
             case hp => exact ⟨by rw [← hres, h58]; rfl, rfl⟩
             case hS => (repeat (first|exact zR _|(apply zP;focus (repeat (first|exact zH _|apply zT)))|apply zD|exact zA _ _))
            ·have nneg : ¬ op = .neg := by rintro rfl; simp [Op.str] at hc224
             refine cj_skip ?_
             refine hK56 _ _ _ ?_
             refine cj_seq (fun K97 hK97 => ?_)
             have hsg : signO op = true := by cases op <;> first | rfl | exact absurd rfl nval | exact absurd rfl ncol | exact absurd rfl h5 | exact absurd rfl nnul | exact absurd rfl nnot | exact absurd rfl nneg | exact absurd rfl nor | exact absurd rfl nand
             have har2 : arity op = 2 := by cases op <;> first | rfl | cases hsg
             obtain ⟨k0, k1, rfl⟩ := len2 (hkl.trans har2)
             obtain ⟨bk, ok, ck, cs0, rfl, rfl, _, hcell0⟩ := hfv.at (i := 0) (x := k0) rfl
             obtain ⟨bk2, ok2, ck2, cs1, he2, rfl, _, hcell1⟩ := hfv.at (i := 1) (x := k1) rfl
             obtain ⟨rfl, rfl⟩ : bk = bk2 ∧ ok = ok2 := by cases he2; exact ⟨rfl, rfl⟩
             rw [← sign_vstep hsg] at hres
             obtain ⟨v59, e59, h59, hc59⟩ := pairV_split (r := signV op k0 k1) (fun e he => by rw [sign_vstep hsg] at he; exact vstep_e he)
             refine cj_mixt [0, 1, 2, 3, 4, 5, 6, 7] [] [8, 9, 10, 11, 12] [] (by rw [List.append_nil]; exact .refl _) (by kernel_rfl) (by kernel_rfl) ?_
             refine fj_val rfl rfl rfl (wn0 rfl) (fun R1 hR1 G => (y_fieldAddr (k := 0) Try.underlying29 rfl (n := 1) (by decide) Try.sizeOf9 rfl)) ?_
             first | refine fj_val rfl rfl rfl (wn0 rfl) (fun R1 hR1 G => (y_load ⟨Try.isAgg9, Try.sizeOf9⟩ rfl (by (repeat (first|exact zH _|apply zT));done) rfl)) ?_ | refine fj_val rfl rfl rfl (wn0 rfl) (fun R1 hR1 G => (y_load_slc ⟨Try.isAgg9, Try.sizeOf9⟩ rfl (by (repeat (first|exact zH _|apply zT));done) rfl)) ?_
             refine fj_val rfl rfl rfl (wn0 rfl) (fun R1 hR1 G => (y_move rfl)) ?_
             first | refine fj_val rfl rfl rfl (wn0 rfl) (fun R1 hR1 G => (y_indexAddr Try.underlying43 Try.sizeOf26 rfl rfl (by (first | omega | (dsimp only; omega) | (simp; done) | (simp; omega))))) ?_ | refine fj_val rfl rfl rfl (wn0 rfl) (fun R1 hR1 G => (y_index_slc Try.underlying43 Try.sizeOf26 rfl rfl (by (repeat (first|exact zH _|apply zT));done) (by (first | omega | (dsimp only; omega) | (simp; done) | (simp; omega))))) ?_
             refine fj_val rfl rfl rfl (wn0 rfl) (fun R1 hR1 G => (y_loads_ro ⟨Try.isAgg26, Try.sizeOf26⟩ (vs := valC k0) rfl rfl (fun j u hj => cell_mono hR1 (hcell0 j u hj)))) ?_
             refine fj_val rfl rfl rfl (wn0 rfl) (fun R1 hR1 G => (y_move rfl)) ?_
             first | refine fj_val rfl rfl rfl (wn0 rfl) (fun R1 hR1 G => (y_indexAddr Try.underlying43 Try.sizeOf26 rfl rfl (by (first | omega | (dsimp only; omega) | (simp; done) | (simp; omega))))) ?_ | refine fj_val rfl rfl rfl (wn0 rfl) (fun R1 hR1 G => (y_index_slc Try.underlying43 Try.sizeOf26 rfl rfl (by (repeat (first|exact zH _|apply zT));done) (by (first | omega | (dsimp only; omega) | (simp; done) | (simp; omega))))) ?_
             refine fj_val rfl rfl rfl (wn0 rfl) (fun R1 hR1 G => (y_loads_ro ⟨Try.isAgg26, Try.sizeOf26⟩ (vs := valC k1) rfl rfl (fun j u hj => cell_mono hR1 (hcell1 j u hj)))) ?_
             refine fj_nil ?_
             refine xj_nil ?_
             try simp only [List.cons_append, List.nil_append, List.append_nil]
             refine tj_all (rs := [8]) (by kernel_rfl) (by decide) ⟨⟨_, rfl, ?_⟩, trivial⟩
             refine rv0 rfl rfl rfl (((y_call Try.call73 rfl (sign_q op k0 k1 hsg (hks k0 (by simp)) (hks k1 (by simp))) (by (repeat (first|exact zN _|(apply zS;focus (repeat (first|exact zH _|apply zT))))))).to h59)) ?_
             refine rj_tj ?_
             refine tj_take (i := 9) rfl rfl rfl (by kernel_rfl) (by kernel_rfl) (by kernel_rfl) (wn0 rfl) rfl (fun σ => (y_extract rfl rfl)) ?_
             refine tj_all (rs := [10]) (by kernel_rfl) (by decide) ⟨⟨_, rfl, ?_⟩, trivial⟩
             refine rv0 rfl rfl rfl (y_extract rfl rfl) ?_
             refine rj_tj ?_
             refine tj_all (rs := [11]) (by kernel_rfl) (by decide) ⟨⟨_, rfl, ?_⟩, trivial⟩
             refine rj_stores_all (vs := valC (v59)) ⟨Try.isAgg26, Try.sizeOf26⟩ rfl (wn0 rfl) rfl rfl (valE.one (R := R) (x := v59) rfl) (by (repeat (first|exact zH _|apply zT));done) rfl ?_
             refine rj_tj ?_
             refine tj_all (rs := [12]) (by kernel_rfl) (by decide) ⟨⟨_, rfl, ?_⟩, trivial⟩
             refine rv0 rfl rfl rfl (y_assign rfl) ?_
             refine rj_tj ?_
             refine tj_done (by kernel_rfl) ?_
             refine hK97 _ _ _ ?_
             refine cj_env (eL 8 rfl (eL 9 rfl eN)) ?_
             refine cj_ret ?_
             refine hret _ _ _ ?_
             apply ej_ret Try.results44 (.cons (rv_cells ⟨Try.isAgg26, Try.sizeOf26⟩ rfl (by (repeat (first|exact zH _|apply zT));done) rfl rfl) (.cons (rv_tmp rfl) .nil)) _ [] (by (first | exact Hp.le_refl _ | assumption | exact Hp.le_trans ‹_› ‹_›)) rfl
             case hp => exact ⟨by rw [← hres, h59]; rfl, rfl⟩
             case hS => (repeat (first|exact zR _|(apply zP;focus (repeat (first|exact zH _|apply zT)))|apply zD|exact zA _ _))
     refine cj_seq (fun K98 hK98 => ?_)
     refine cj_region ?_
     refine rv0 rfl rfl rfl (y_seql rfl rfl) ?_
     refine rv0 rfl rfl rfl (y_assign rfl) ?_
     refine rj_nil ?_
     refine hK98 _ _ _ ?_
     refine cj_env (eL 1 rfl (eL 2 rfl (eL 3 rfl (eL 4 rfl (eL 8 rfl (eL 22 rfl (eL 43 rfl eN))))))) ?_
     refine cj_condt rfl (fun hc43 => ?_) (fun hc43 => ?_)
     ·first | (have h5 : fam op = 5 := by have := Op.is hc43 rfl; rw [this]; rfl) | (have h5 := h43t hc43; obtain ⟨k, rfl⟩ := kid1 har h5 ncnt; obtain ⟨bk, ok, ck, cs0, hek, hrep, hcl0, hcell0⟩ := hkx.at (i := 0) (x := k) rfl; obtain ⟨rfl, rfl⟩ : q = some ⟨bk, ok, none⟩ ∧ cap = ck := (by cases hek; exact ⟨rfl, rfl⟩); rw [if_neg nval, if_neg ncol, if_neg ncnt, if_pos h5, evG] at hres; obtain ⟨K, hK, hsnd⟩ := group_snd hck hw h5 hkk hk0 hro hsd; have hkk0 := group_kid hk0 (y := k) (by simp))
      refine cj_skip ?_
      refine ej_join hJ11 (true) (⟨fun _ => h5, fun h => by cases h⟩) (eC rfl (eC rfl (eC rfl (eC rfl (eC rfl (eC rfl eN)))))) rfl (by (repeat (first|exact zR _|(apply zP;focus (repeat (first|exact zH _|apply zT)))|apply zD|exact zA _ _)))
     ·first | (have nsum : ¬ op = .sum := by rintro rfl; simp [Op.str] at hc43; done) | (have nmin : ¬ op = .min := by rintro rfl; simp [Op.str] at hc43; done) | (obtain ⟨nsum, nmin, nmax⟩ := h43f hc43)
      refine cj_seq (fun K100 hK100 => ?_)
      refine cj_region ?_
      refine rv0 rfl rfl rfl (y_seql rfl rfl) ?_
      refine rv0 rfl rfl rfl (y_assign rfl) ?_
      refine rj_nil ?_
      refine hK100 _ _ _ ?_
      refine cj_condt rfl (fun hc43 => ?_) (fun hc43 => ?_)
      ·first | (have h5 : fam op = 5 := by have := Op.is hc43 rfl; rw [this]; rfl) | (have h5 := h43t hc43; obtain ⟨k, rfl⟩ := kid1 har h5 ncnt; obtain ⟨bk, ok, ck, cs0, hek, hrep, hcl0, hcell0⟩ := hkx.at (i := 0) (x := k) rfl; obtain ⟨rfl, rfl⟩ : q = some ⟨bk, ok, none⟩ ∧ cap = ck := (by cases hek; exact ⟨rfl, rfl⟩); rw [if_neg nval, if_neg ncol, if_neg ncnt, if_pos h5, evG] at hres; obtain ⟨K, hK, hsnd⟩ := group_snd hck hw h5 hkk hk0 hro hsd; have hkk0 := group_kid hk0 (y := k) (by simp))
       refine cj_skip ?_
       refine ej_join hJ11 (true) (⟨fun _ => h5, fun h => by cases h⟩) (eC rfl (eC rfl (eC rfl (eC rfl (eC rfl (eC rfl eN)))))) rfl (by (repeat (first|exact zR _|(apply zP;focus (repeat (first|exact zH _|apply zT)))|apply zD|exact zA _ _)))
      ·first | (have nsum : ¬ op = .sum := by rintro rfl; simp [Op.str] at hc43; done) | (have nmin : ¬ op = .min := by rintro rfl; simp [Op.str] at hc43; done) | (obtain ⟨nsum, nmin, nmax⟩ := h43f hc43)
       refine cj_region ?_
       refine rv0 rfl rfl rfl (y_seql rfl rfl) ?_
       refine rv0 rfl rfl rfl (y_assign rfl) ?_
       refine rj_nil ?_
       refine ej_join hJ11 ((decide (op.str = [109, 97, 120]))) (⟨fun h => by have := Op.is (op := op) h rfl; rw [this]; rfl, fun h => ⟨nsum, nmin, by rintro rfl; simp [Op.str] at h⟩⟩) (eC rfl (eC rfl (eC rfl (eC rfl (eC rfl (eC rfl eN)))))) rfl (by (repeat (first|exact zR _|(apply zP;focus (repeat (first|exact zH _|apply zT)))|apply zD|exact zA _ _)))
end V
end Go.Proofs.Ytghgifgmacapcaa
