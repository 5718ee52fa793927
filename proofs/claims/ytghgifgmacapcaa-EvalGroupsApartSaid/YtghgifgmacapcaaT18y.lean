/- The law EvalRows, walked. -/
import Derived.Test.YtghgifgmacapcaaT18w
set_option linter.unusedSimpArgs false
set_option linter.unusedVariables false
set_option maxRecDepth 100000
namespace Go.Proofs.Ytghgifgmacapcaa
open Go.RowKit
namespace V
set_option maxHeartbeats 4000000
section
variable {c : Cx} {ops : Array Oper} {Q : Exit → Act → World → Prop} {E : Env} {R : Hp} {L M : List Asn} {d : Option Tmp} {ty : TypeId} {p : String} {af : Array Edge} {g : Option (Nat × Bool)}
theorem y_slice_arr_hi {x y : Operand} {t e : TypeId} {n sz h : Nat} {a : Addr} {k : IntKind} (hT : c.P.underlying t = some (.array n e)) (hS : ∀ w, (sizeOf e).run c.P w = .ok sz w)
    (e1 : ev E x = some (.pointer (some a))) (e2 : ev E y = some (.int k (h : Int))) (hh : h ≤ n) : Yld c E R L ⟨d, .slice t x none (some y) none, ty, p, af, g⟩ (.slice (some a) h n) :=
  fun _ w hf _ => by
    have r : (Instr.sliceAt t (.pointer (some a)) none (some (.int k (h : Int))) none).run c.P w = .ok (.slice (some a) h n) w := by
      have : (h : Int) ≤ (n : Int) := by omega
      simp [Instr.sliceAt, run_underlying hT, Instr.sureAddr, Instr.sliceBounds, Instr.sliceBound, asIntOf, this, hS, Addr.add]
      intro h1; omega
    simp [execOp, hf.ev e1, hf.ev e2, r, Oper.quietUpon]
theorem cj_freezeA {x : Code} {A : Asn} (f : Find A L M) (h : ∀ R', R.le R' → (∃ h : Hp, h.le R' ∧ A h) → CJ c x Q E R' M) : CJ c x Q E R L := fun a w hf hs => by
  obtain ⟨R', h1, h2, h3⟩ := (hs.find f).freeze
  exact h R' h1 h2 a w hf h3
/-- what is no longer written -/
theorem rj_freezeA {l : List Oper} {A : Asn} (f : Find A L M) (h : ∀ R', R.le R' → (∃ h : Hp, h.le R' ∧ A h) → RJ c ops Q l E R' M) : RJ c ops Q l E R L := fun a w hf hs => by
  obtain ⟨R', h1, h2, h3⟩ := (hs.find f).freeze
  exact h R' h1 h2 a w hf h3
end
theorem blkFr {R' : Hp} {b : Nat} {l : List Value} {e : TypeId} (h : ∃ h : Hp, h.le R' ∧ blk b l e h) : ∀ (j : Nat) u, l[j]? = some u → Hp.cell R' ⟨b, j, none⟩ = some u := by
  obtain ⟨g, h1, h2⟩ := h
  intro j u hu
  have : R' b = some (.cells ⟨l⟩ e (0, 0)) := h1 _ _ h2
  simp [Hp.cell, this, hu]
theorem valsEls {R : Hp} (l : List Vl) : Els valE R l (l.map valC) := ⟨by simp, fun i x cs h1 h2 => by rw [List.getElem?_map, h1] at h2; simpa [valE] using h2.symm⟩
theorem arrFr {R' : Hp} {b : Nat} {l : List Vl} {n cap : Nat} (hc : ∀ (j : Nat) u, (valsC l)[j]? = some u → Hp.cell R' ⟨b, j, none⟩ = some u) (hn : n ≤ l.length) (hcap : n ≤ cap) (hm : cap ≤ maxLen) : FrX valE R' (l.take n) (.slice (some ⟨b, 0, none⟩) n cap) := by
  have hl : (l.take n).length = n := by simp; omega
  refine ⟨_, valsEls (l.take n), some ⟨b, 0, none⟩, cap, by rw [hl], by rw [hl]; exact hcap, hm, .inr ⟨b, 0, rfl, fun j u hj => ?_⟩⟩
  rw [Nat.zero_add]
  refine hc j u ?_
  have e : ((l.take n).map valC).flatten = (valsC l).take (n * 3) := by
    unfold valsC
    rw [ftake (n := 3) n (fun c hc => by obtain ⟨x, _, rfl⟩ := List.mem_map.1 hc; rfl), List.map_take]
  rw [e, List.getElem?_take] at hj
  split at hj
  · exact hj
  · cases hj
theorem FrozenS.mono {R R' : Hp} (hR : R.le R') {v : Value} {n : Nat} {xs : List Value} (h : FrozenS R v n xs) : FrozenS R' v n xs := by
  rcases h with h | ⟨b, off, cap, e, h1, h2, h3⟩
  · exact .inl h
  · exact .inr ⟨b, off, cap, e, h1, h2, fun j u hj => cell_mono hR (h3 j u hj)⟩
theorem rowFr3 {R : Hp} {a b d : List Vl} {va vb vd v : Value} (h : FrozenS R v 3 [va, vb, vd]) (ha : FrX valE R a va) (hb : FrX valE R b vb) (hd : FrX valE R d vd) : FrX rowE R [a, b, d] v :=
  FrozenS.frx (l := [a, b, d]) (css := [[va], [vb], [vd]]) h ⟨rfl, fun i x cs h1 h2 => by
    match i with
    | 0 => cases h1; cases h2; exact ⟨va, rfl, ha⟩
    | 1 => cases h1; cases h2; exact ⟨vb, rfl, hb⟩
    | 2 => cases h1; cases h2; exact ⟨vd, rfl, hd⟩
    | i + 3 => simp at h1⟩
theorem few_len {l : List Vl} (h : fewB l = true) : ∀ v ∈ l, v.s.length ≤ 300 := fun v hv => by
  have := List.all_eq_true.1 h v hv; simpa using this
theorem inV_rowV {cs : List Cl} {l : List Vl} (h : ∀ v ∈ l, inV v) : ∀ v ∈ rowV cs l, inV v := by
  induction cs generalizing l with
  | nil => intro v hv; unfold rowV at hv; simp at hv
  | cons c cs ih =>
    cases l with
    | nil => intro v hv; unfold rowV at hv; simp at hv
    | cons x l =>
      intro v hv
      rw [rowV] at hv
      rcases List.mem_cons.1 hv with rfl | hv
      · split
        · exact h _ (by simp)
        · exact ⟨by decide, by decide⟩
      · exact ih (fun v hv => h v (by simp [hv])) v hv
theorem ins3 {a b : List Vl} {n : Nat} (ha : ∀ v ∈ a, inV v) (hb : ∀ v ∈ b, inV v) : ∀ r ∈ [a, b, b.take n], ∀ v ∈ r, inV v := fun r hr v hv => by
  simp only [List.mem_cons, List.not_mem_nil, or_false] at hr
  rcases hr with rfl | rfl | rfl
  · exact ha v hv
  · exact hb v hv
  · exact hb v (List.mem_of_mem_take hv)
theorem map_snoc {α β : Type} {f : α → β} {l : List α} {i : Nat} {x : α} (h : l[i]? = some x) : (l.take (i + 1)).map f = (l.take i).map f ++ [f x] := by
  rw [List.take_add_one, h]; simp
/-- an answer, laid open -/
theorem pairV_open (r : Except Int Vl) (hr : ∀ e, r = .error e → e ≠ 0) : ∃ v e, pairV r = tupOf [.agg ⟨valC v⟩, .int .i64 e] ∧ (e = 0 → r = .ok v) := by
  cases r with
  | ok v => exact ⟨v, 0, rfl, fun _ => rfl⟩
  | error e => exact ⟨Vl.zero, e, rfl, fun h => absurd h (hr e rfl)⟩
theorem err3_ne {e : Int} (h : err3 e) : e ≠ 0 := by rcases h with rfl | rfl | rfl <;> decide
theorem ofV_e {cols : List Cl} {row : List Vl} {x : Ex} : ∀ e, ofV cols row x = .error e → e ≠ 0 := fun e h => by
  unfold ofV at h
  split at h
  · exact err3_ne (evX_e _ x _ e (Nat.le_refl _) h)
  · cases h; decide
theorem allV_e {cols : List Cl} {rows : List (List Vl)} {x : Ex} : ∀ e, allV cols rows x = .error e → e ≠ 0 := fun e h => by
  unfold allV at h
  split at h
  · exact err3_ne (evX_e _ x _ e (Nat.le_refl _) h)
  · cases h; decide
theorem ofV_kind {cols : List Cl} {row : List Vl} {x : Ex} {v : Vl} (hck : ∀ c ∈ cols, kok c.kind) (hw : WfX x) (hin : ∀ v ∈ row, inV v) (h : ofV cols row x = .ok v) : (kindE cols false x).2 = 0 ∧ (v.kind = 0 ∨ v.kind = (kindE cols false x).1) := by
  unfold ofV at h
  split at h
  · rename_i h1
    obtain ⟨hk, ha⟩ := h1
    refine ⟨hk, ?_⟩
    have hok : RowsOK cols [row] := ⟨by simp, fun r h => by simp at h; subst h; exact ha, fun r h v hv => by simp at h; subst h; exact (hin v hv).1⟩
    have := (sound hck _ x false [row] v (Nat.le_refl _) hw hok (kindE_ok hk).1 h).2
    have e : (kindE cols false x).1 = (kindX cols false x).1 := by
      unfold kindE at hk ⊢
      dsimp only at hk ⊢
      split at hk
      · cases hk
      · rename_i h2; rw [if_neg h2]
    rw [e]; exact this
  · cases h
theorem evalRows_t {R : Hp} (v0 : Value) (ys : List (Int × Int × List UInt8)) (h0 : slcR 3 vlR R [v0] ys) (c1 : List Value) (bs : List Bool) (h1 : arrR 3 1 boolR R c1 bs) (c2 : List Value) (zs : List (Int × Int × List UInt8)) (h2 : arrR 3 3 vlR R c2 zs) :
    Tri Try.prog 4 [v0, .agg ⟨c1⟩, .agg ⟨c2⟩] R [] (fun v _ _ => v = .bool true) := by
  obtain ⟨hst, hb⟩ := steps_in h0
  obtain ⟨rfl, hbl⟩ := bools_in h1
  obtain ⟨rfl, hll, hin⟩ := vals_in h2
  have hvo := hst.one
  generalize ys.map stOf = l at hst hb
  generalize zs.map vlOf = row at hll hin
  have hvl := valsC_len row
  have hcl3 : (colsOf bs).length = 3 := by obtain ⟨a, b, d, rfl⟩ := three hbl; rfl
  refine tri_of Try.func4 rfl Try.ntmps4 rfl (fun σ F Q hret hend hpan => ?_)
  try simp only [List.cons_append, List.nil_append]
  refine cj_env (eL 0 rfl (eL 1 rfl (eL 2 rfl eN))) ?_
  refine cj_seq (fun K1 hK1 => ?_)
  refine cj_region ?_
  refine rj_box (wn0 rfl) rfl rfl rfl (fun b4 => ?_)
  refine rj_box (wn0 rfl) rfl rfl rfl (fun b5 => ?_)
  refine rv0 rfl rfl rfl (y_assign rfl) ?_
  refine rj_nil ?_
  refine hK1 _ _ _ ?_
  refine cj_env (eL 0 rfl (eL 4 rfl (eL 5 rfl eN))) ?_
  refine cj_seq (fun K2 hK2 => ?_)
  refine cj_seq (fun K3 hK3 => ?_)
  refine cj_region ?_
  refine rj_call (wn0 rfl) rfl Try.call10 rfl (awake_t) (by (repeat (first|exact zN _|(apply zS;focus (repeat (first|exact zH _|apply zT)))))) (fun _ _ _ _ h => h.elim) ?_
  rintro v R0 L' hR0 ⟨rfl, rfl⟩
  replace hst := hst.mono hR0
  try simp only [List.cons_append, List.nil_append]
  refine rv0 rfl rfl rfl (y_not rfl) ?_
  refine rj_nil ?_
  refine hK3 _ _ _ ?_
  refine cj_cond_f rfl ?_
  refine cj_skip ?_
  refine hK2 _ _ _ ?_
  refine cj_seq (fun K4 hK4 => ?_)
  refine cj_region ?_
  refine rv0 rfl rfl rfl (y_move rfl) ?_
  refine rj_call (wn0 rfl) rfl Try.call11 rfl (pile_t l v0 hst hb) (by (repeat (first|exact zN _|(apply zS;focus (repeat (first|exact zH _|apply zT)))))) (fun _ _ _ _ h => h.elim) ?_
  rintro r R1 L' hR1 ⟨rfl, cs, ok, rfl, hcl, hco, hok⟩
  try simp only [List.cons_append, List.nil_append]
  refine rv0 rfl rfl rfl (y_move rfl) ?_
  refine rv0 rfl rfl rfl (y_extract rfl rfl) ?_
  refine rv0 rfl rfl rfl (y_extract rfl rfl) ?_
  refine rj_alloc (wn0 rfl) rfl Try.zeroValue29 rfl (fun b7 => ?_)
  refine rj_stores_all (vs := cs) ⟨Try.isAgg29, Try.sizeOf29⟩ hcl (wn0 rfl) rfl rfl hco (by (repeat (first|exact zH _|apply zT));done) rfl ?_
  refine rv0 rfl rfl rfl (y_assign rfl) ?_
  refine rj_nil ?_
  refine hK4 _ _ _ ?_
  refine cj_env (eL 4 rfl (eL 5 rfl (eL 7 rfl (eL 8 rfl eN)))) ?_
  refine cj_seq (fun K5 hK5 => ?_)
  refine cj_seq (fun K6 hK6 => ?_)
  refine cj_region ?_
  refine rv0 rfl rfl rfl (y_move rfl) ?_
  refine rv0 rfl rfl rfl (y_not rfl) ?_
  refine rv0 rfl rfl rfl (y_move rfl) ?_
  refine rj_part 27 rfl (fun hg27 => ?_) (fun hg27 => ?_)
  ·try simp only [dT, dF, nT, nF, tF, fT] at hg27
   refine rj_skip (wn2 rfl rfl rfl rfl rfl) rfl rfl ?_
   refine rj_skip (wn2 rfl rfl rfl rfl rfl) rfl rfl ?_
   refine rj_skip (wn2 rfl rfl rfl rfl rfl) rfl rfl ?_
   refine rv0 rfl rfl rfl (y_pick_t rfl rfl) ?_
   refine rj_nil ?_
   refine hK6 _ _ _ ?_
   refine cj_env (eL 4 rfl (eL 5 rfl (eL 7 rfl (eL 31 rfl eN)))) ?_
   refine cj_cond_t rfl ?_
   refine cj_seq (fun K7 hK7 => ?_)
   refine cj_region ?_
   refine rv0 rfl rfl rfl (y_assign rfl) ?_
   refine rj_nil ?_
   refine hK7 _ _ _ ?_
   refine cj_env (eL 6 rfl eN) ?_
   refine cj_ret ?_
   refine hret _ _ _ ?_
   apply ej_ret Try.results4 (.cons (rv_tmp rfl) .nil) _ [] (by first | exact Hp.le_trans hR0 hR1 | exact Hp.le_trans hR0 (Hp.le_trans hR1 (Hp.le_trans hR2 (Hp.le_trans hR3 (Hp.le_trans hR5 hR6))))) rfl
   case hp => rfl
   case hS => (repeat (first|exact zR _|(apply zP;focus (repeat (first|exact zH _|apply zT)))|apply zD|exact zA _ _))
  ·obtain rfl : ok = true := by simpa using hg27
   obtain ⟨x, hw, hx⟩ := hok rfl
   refine rj_val (wn1 rfl rfl rfl rfl) rfl rfl ((y_loads_all (vs := valsC row) ⟨Try.isAgg41, Try.sizeOf41⟩ (by omega) rfl (by (repeat (first|exact zH _|apply zT));done))) ?_
   refine rj_val (wn1 rfl rfl rfl rfl) rfl rfl (y_call Try.call17 rfl (few_q row hll) (by (repeat (first|exact zN _|(apply zS;focus (repeat (first|exact zH _|apply zT))))))) ?_
   refine rj_val (wn1 rfl rfl rfl rfl) rfl rfl (y_not rfl) ?_
   refine rv0 rfl rfl rfl (y_pick_f rfl rfl) ?_
   refine rj_nil ?_
   refine hK6 _ _ _ ?_
   refine cj_env (eL 4 rfl (eL 5 rfl (eL 7 rfl (eL 31 rfl eN)))) ?_
   refine cj_cond rfl (fun hc31 => ?_) (fun hc31 => ?_)
   ·try simp only [dT, dF, nT, nF, tF, fT] at hc31
    refine cj_seq (fun K9 hK9 => ?_)
    refine cj_region ?_
    refine rv0 rfl rfl rfl (y_assign rfl) ?_
    refine rj_nil ?_
    refine hK9 _ _ _ ?_
    refine cj_env (eL 6 rfl eN) ?_
    refine cj_ret ?_
    refine hret _ _ _ ?_
    apply ej_ret Try.results4 (.cons (rv_tmp rfl) .nil) _ [] (by first | exact Hp.le_trans hR0 hR1 | exact Hp.le_trans hR0 (Hp.le_trans hR1 (Hp.le_trans hR2 (Hp.le_trans hR3 (Hp.le_trans hR5 hR6))))) rfl
    case hp => rfl
    case hS => (repeat (first|exact zR _|(apply zP;focus (repeat (first|exact zH _|apply zT)))|apply zD|exact zA _ _))
   ·have hfew : fewB row = true := by simpa using hc31
    refine cj_skip ?_
    refine hK5 _ _ _ ?_
    refine cj_seq (fun K10 hK10 => ?_)
    refine cj_region ?_
    refine rv0 rfl rfl rfl ((y_loads_all (vs := bs.map Value.bool) ⟨Try.isAgg23, Try.sizeOf23⟩ (by simp [hbl]) rfl (by (repeat (first|exact zH _|apply zT));done))) ?_
    refine rj_call (wn0 rfl) rfl Try.call13 rfl (cols_t bs hbl) (by (repeat (first|exact zN _|(apply zS;focus (repeat (first|exact zH _|apply zT)))))) (fun _ _ _ _ h => h.elim) ?_
    rintro v9 R2 L' hR2 ⟨hc9, rfl⟩
    obtain ⟨q9, cap9, rfl, _, _⟩ := hc9.shape
    try simp only [List.cons_append, List.nil_append]
    refine rv0 rfl rfl rfl (y_assign rfl) ?_
    refine rj_nil ?_
    refine hK10 _ _ _ ?_
    refine cj_env (eL 5 rfl (eL 7 rfl (eL 9 rfl eN))) ?_
    refine cj_seq (fun K11 hK11 => ?_)
    refine cj_seq (fun K12 hK12 => ?_)
    refine cj_mixg (L := [blk b5 (valsC row) 41]) [0, 1, 3, 4, 7] [2, 5, 6] [] _ (by (repeat (first|exact zR _|(apply zP;focus (repeat (first|exact zH _|apply zT)))|apply zD|exact zA _ _))) (by kernel_rfl) (by kernel_rfl) (by kernel_rfl) rfl ?_
    refine fj_val rfl rfl rfl (wn0 rfl) (fun R1 hR1 G => (y_move rfl)) ?_
    refine fj_val rfl rfl rfl (wn0 rfl) (fun R1 hR1 G => (y_loads_all (vs := valsC row) ⟨Try.isAgg41, Try.sizeOf41⟩ (by omega) rfl (by (repeat (first|exact zH _|apply zT));done))) ?_
    refine fj_val rfl rfl rfl (wn0 rfl) (fun R1 hR1 G => (y_slice_arr Try.underlying41 Try.sizeOf26 rfl)) ?_
    refine fj_val rfl rfl rfl (wn0 rfl) (fun R1 hR1 G => (y_slice_arr_hi (h := 2) Try.underlying41 Try.sizeOf26 rfl rfl (by decide))) ?_
    refine fj_val rfl rfl rfl (wn0 rfl) (fun R1 hR1 G => (y_move rfl)) ?_
    refine fj_nil ?_
    refine xj_rj rfl ?_
    try simp only [List.cons_append, List.nil_append, List.append_nil]
    refine rj_call (wn0 rfl) rfl Try.call18 rfl (row_t (colsOf bs) _ row hc9 hcl3 hll (fun v hv => (hin v hv).2)) (by (repeat (first|exact zN _|(apply zS;focus (repeat (first|exact zH _|apply zT)))))) (fun _ _ _ _ h => h.elim) ?_
    rintro v36 R3 L' hR3 ⟨hr36, rfl⟩
    obtain ⟨q36, cap36, rfl, _, _⟩ := hr36.shape
    try simp only [List.cons_append, List.nil_append]
    refine rj_xk (by (first | exact Hp.le_refl _ | assumption | exact Hp.le_trans ‹_› ‹_›)) (by (repeat (first|exact zR _|(apply zP;focus (repeat (first|exact zH _|apply zT)))|apply zD|exact zA _ _))) ?_
    refine xj_rj rfl ?_
    try simp only [List.cons_append, List.nil_append, List.append_nil]
    refine rj_buildSlice (sz := 1) (wn0 rfl) rfl Try.underlying45 Try.sizeOf43 Try.zeroValue43 rfl rfl rfl (by decide) (by decide) (fun b39 => ?_)
    refine rj_freeze (e := 43) (sz := 1) (n := 3) (xs := [.slice q36 (rowV (colsOf bs) row).length cap36, .slice (some ⟨b5, 0, none⟩) 3 3, .slice (some ⟨b5, 0, none⟩) 2 3]) (by (repeat (first|exact zH _|apply zT));done) (fun R5 hR5 hfr5 hxl5 => ?_)
    refine rj_xk (by (first | exact Hp.le_refl _ | assumption | exact Hp.le_trans ‹_› ‹_›)) (by (repeat (first|exact zR _|(apply zP;focus (repeat (first|exact zH _|apply zT)))|apply zD|exact zA _ _))) ?_
    refine xj_rj rfl ?_
    try simp only [List.cons_append, List.nil_append, List.append_nil]
    first | refine rv0 rfl rfl rfl (y_len_sl Try.underlying45 rfl) ?_ | refine rv0 rfl rfl rfl (y_len_slc Try.underlying45 rfl (by (repeat (first|exact zH _|apply zT));done)) ?_
    refine rj_xk (by (first | exact Hp.le_refl _ | assumption | exact Hp.le_trans ‹_› ‹_›)) (by (repeat (first|exact zR _|(apply zP;focus (repeat (first|exact zH _|apply zT)))|apply zD|exact zA _ _))) ?_
    refine xj_nil ?_
    try simp only [List.cons_append, List.nil_append, List.append_nil]
    refine rj_nil ?_
    refine hK12 _ _ _ ?_
    refine cj_env (eL 7 rfl (eL 9 rfl (eL 39 rfl (eL 40 rfl (eL 41 rfl eN))))) ?_
    refine cj_block ?_
    refine cj_freezeA (A := blk b5 (valsC row) 41) (by (repeat (first|exact zH _|apply zT));done) (fun R6 hR6 hbf => ?_)
    have hcell := blkFr hbf
    have hf3 : FrX valE R6 (row.take 3) (.slice (some ⟨b5, 0, none⟩) 3 3) := arrFr hcell (by omega) (by omega) (by decide)
    have hf2 : FrX valE R6 (row.take 2) (.slice (some ⟨b5, 0, none⟩) 2 3) := arrFr hcell (by omega) (by omega) (by decide)
    rw [List.take_of_length_le (by omega)] at hf3
    have hrs := rowFr3 (hfr5.mono hR6) ((hr36.mono hR5).mono hR6) hf3 hf2
    have hins := ins3 (n := 2) (inV_rowV (cs := colsOf bs) hin) hin
    have hx5 := (((hx.mono hR2).mono hR3).mono hR5).mono hR6
    have hc5 := ((hc9.mono hR3).mono hR5).mono hR6
    refine cj_env (E' := (fun (i : Nat) => [(7, .pointer (some ⟨b7, 0, none⟩)), (9, .slice q9 (colsOf bs).length cap9), (39, .slice (some ⟨b39, 0, none⟩) 3 3), (40, .int .i64 3), (41, .int .i64 (i : Int))]) 0) (eC rfl (eC rfl (eC rfl (eC rfl (eC rfl eN))))) ?_
    refine cj_sub (M := (fun (i : Nat) => blk b7 cs 29 :: F) 0) (by (repeat (first|exact zR _|(apply zP;focus (repeat (first|exact zH _|apply zT)))|apply zD|exact zA _ _))) ?_
    refine cj_loop (fun (i : Nat) => [(7, .pointer (some ⟨b7, 0, none⟩)), (9, .slice q9 (colsOf bs).length cap9), (39, .slice (some ⟨b39, 0, none⟩) 3 3), (40, .int .i64 3), (41, .int .i64 (i : Int))]) (fun (i : Nat) => R6) (fun (i : Nat) => blk b7 cs 29 :: F) (fun (i : Nat) => i ≤ 3) (fun (i : Nat) => 3 - i) 0 (by simp) ?_
    rintro i hi
    try dsimp only
    refine cj_seq (fun K13 hK13 => ?_)
    refine cj_region ?_
    refine rv0 rfl rfl rfl (y_lss rfl rfl) ?_
    refine rj_nil ?_
    refine hK13 _ _ _ ?_
    refine cj_seq (fun K14 hK14 => ?_)
    refine cj_cond rfl (fun hc42 => ?_) (fun hc42 => ?_)
    ·try simp only [dT, dF, nT, nF, tF, fT] at hc42
     refine cj_skip ?_
     refine hK14 _ _ _ ?_
     refine cj_seq (fun K16 hK16 => ?_)
     refine cj_block ?_
     refine cj_seq (fun K17 hK17 => ?_)
     refine cj_region ?_
     have hi2 : i < 3 := by (try simp at hc42); omega
     obtain ⟨r, hr⟩ : ∃ r, [rowV (colsOf bs) row, row, row.take 2][i]? = some r := ⟨_, List.getElem?_eq_getElem (by simpa using hi2)⟩
     obtain ⟨br, orr, cpr, csr, her, ⟨vr, rfl, hrow⟩, _, hcellr⟩ := hrs.at hr
     have hrin := hins r (List.mem_of_getElem? hr)
     cases her
     obtain ⟨qr, capr, rfl, _, _⟩ := hrow.shape
     obtain ⟨u, e, hpe, hoe⟩ := pairV_open (ofV (colsOf bs) r x) ofV_e
     first | refine rv0 rfl rfl rfl (y_indexAddr Try.underlying45 Try.sizeOf43 rfl rfl (by (first | omega | (dsimp only; omega) | (simp; done) | (simp; omega)))) ?_ | refine rv0 rfl rfl rfl (y_index_slc Try.underlying45 Try.sizeOf43 rfl rfl (by (repeat (first|exact zH _|apply zT));done) (by (first | omega | (dsimp only; omega) | (simp; done) | (simp; omega)))) ?_
     refine rv0 rfl rfl rfl ((y_load_ro ⟨Try.isAgg43, Try.sizeOf43⟩ rfl (hcellr 0 _ rfl))) ?_
     refine rv0 rfl rfl rfl (y_assign rfl) ?_
     refine rj_nil ?_
     refine hK17 _ _ _ ?_
     refine cj_env (eL 7 rfl (eL 9 rfl (eL 11 rfl (eL 39 rfl (eL 40 rfl (eL 41 rfl eN)))))) ?_
     refine cj_seq (fun K18 hK18 => ?_)
     refine cj_region ?_
     refine rv0 rfl rfl rfl ((y_loads_all (vs := cs) ⟨Try.isAgg29, Try.sizeOf29⟩ hcl rfl (by (repeat (first|exact zH _|apply zT));done))) ?_
     refine rv0 rfl rfl rfl (y_move rfl) ?_
     refine rv0 rfl rfl rfl (y_move rfl) ?_
     refine rv0 rfl rfl rfl (y_call Try.call19 rfl ((Of_q x cs (colsOf bs) _ r _ hw hx5 hc5 colsOf_ok hrow hrin).eq hpe) (by (repeat (first|exact zN _|(apply zS;focus (repeat (first|exact zH _|apply zT))))))) ?_
     refine rv0 rfl rfl rfl (y_move rfl) ?_
     refine rv0 rfl rfl rfl (y_extract rfl rfl) ?_
     refine rv0 rfl rfl rfl (y_extract rfl rfl) ?_
     refine rj_alloc (wn0 rfl) rfl Try.zeroValue26 rfl (fun b12 => ?_)
     refine rj_stores_all (vs := valC u) ⟨Try.isAgg26, Try.sizeOf26⟩ rfl (wn0 rfl) rfl rfl (valE.one (R := R) (x := u) rfl) (by (repeat (first|exact zH _|apply zT));done) rfl ?_
     refine rv0 rfl rfl rfl (y_assign rfl) ?_
     refine rj_nil ?_
     refine hK18 _ _ _ ?_
     refine cj_env (eL 7 rfl (eL 9 rfl (eL 11 rfl (eL 12 rfl (eL 13 rfl (eL 39 rfl (eL 40 rfl (eL 41 rfl eN)))))))) ?_
     refine cj_seq (fun K19 hK19 => ?_)
     refine cj_region ?_
     refine rv0 rfl rfl rfl ((y_loads_all (vs := cs) ⟨Try.isAgg29, Try.sizeOf29⟩ hcl rfl (by (repeat (first|exact zH _|apply zT));done))) ?_
     refine rv0 rfl rfl rfl (y_move rfl) ?_
     refine rv0 rfl rfl rfl (y_move rfl) ?_
     refine rv0 rfl rfl rfl (y_call Try.call20 rfl ((rOf_q x cs (colsOf bs) _ r _ hw hx5 hc5 colsOf_ok hrow hrin).eq hpe) (by (repeat (first|exact zN _|(apply zS;focus (repeat (first|exact zH _|apply zT))))))) ?_
     refine rv0 rfl rfl rfl (y_move rfl) ?_
     refine rv0 rfl rfl rfl (y_extract rfl rfl) ?_
     refine rv0 rfl rfl rfl (y_extract rfl rfl) ?_
     refine rj_alloc (wn0 rfl) rfl Try.zeroValue26 rfl (fun b14 => ?_)
     refine rj_stores_all (vs := valC u) ⟨Try.isAgg26, Try.sizeOf26⟩ rfl (wn0 rfl) rfl rfl (valE.one (R := R) (x := u) rfl) (by (repeat (first|exact zH _|apply zT));done) rfl ?_
     refine rv0 rfl rfl rfl (y_assign rfl) ?_
     refine rj_nil ?_
     refine hK19 _ _ _ ?_
     refine cj_env (eL 7 rfl (eL 9 rfl (eL 12 rfl (eL 13 rfl (eL 14 rfl (eL 15 rfl (eL 39 rfl (eL 40 rfl (eL 41 rfl eN))))))))) ?_
     refine cj_seq (fun K20 hK20 => ?_)
     refine cj_seq (fun K21 hK21 => ?_)
     refine cj_region ?_
     refine rv0 rfl rfl rfl ((y_loads_all (vs := valC u) ⟨Try.isAgg26, Try.sizeOf26⟩ rfl rfl (by (repeat (first|exact zH _|apply zT));done))) ?_
     refine rv0 rfl rfl rfl ((y_loads_all (vs := valC u) ⟨Try.isAgg26, Try.sizeOf26⟩ rfl rfl (by (repeat (first|exact zH _|apply zT));done))) ?_
     refine rv0 rfl rfl rfl ((Yld.to (u := .bool false) (y_stne (by kernel_rfl) rfl rfl (val_ne u u)) (by simp))) ?_
     refine rv0 rfl rfl rfl (y_move rfl) ?_
     refine rj_val (wn1 rfl rfl rfl rfl) rfl rfl (y_move rfl) ?_
     refine rj_val (wn1 rfl rfl rfl rfl) rfl rfl (y_move rfl) ?_
     refine rj_val (wn1 rfl rfl rfl rfl) rfl rfl (y_neq rfl rfl) ?_
     refine rj_eq 65 rfl (v' := .bool false) (by simp) ?_
     refine rv0 rfl rfl rfl (y_pick_f rfl rfl) ?_
     refine rj_nil ?_
     refine hK21 _ _ _ ?_
     refine cj_env (eL 7 rfl (eL 9 rfl (eL 12 rfl (eL 13 rfl (eL 39 rfl (eL 40 rfl (eL 41 rfl (eL 66 rfl eN)))))))) ?_
     refine cj_cond_f rfl ?_
     refine cj_skip ?_
     refine hK20 _ _ _ ?_
     refine cj_seq (fun K22 hK22 => ?_)
     refine cj_region ?_
     refine rv0 rfl rfl rfl ((y_loads_all (vs := cs) ⟨Try.isAgg29, Try.sizeOf29⟩ hcl rfl (by (repeat (first|exact zH _|apply zT));done))) ?_
     refine rv0 rfl rfl rfl (y_move rfl) ?_
     refine rv0 rfl rfl rfl (y_call Try.call12 rfl (Kind_q x cs (colsOf bs) _ false hw hx5 hc5) (by (repeat (first|exact zN _|(apply zS;focus (repeat (first|exact zH _|apply zT))))))) ?_
     refine rv0 rfl rfl rfl (y_move rfl) ?_
     refine rv0 rfl rfl rfl (y_extract rfl rfl) ?_
     refine rv0 rfl rfl rfl (y_extract rfl rfl) ?_
     refine rv0 rfl rfl rfl (y_assign rfl) ?_
     refine rv0 rfl rfl rfl (y_assign rfl) ?_
     refine rj_nil ?_
     refine hK22 _ _ _ ?_
     refine cj_env (eL 7 rfl (eL 9 rfl (eL 12 rfl (eL 13 rfl (eL 16 rfl (eL 17 rfl (eL 39 rfl (eL 40 rfl (eL 41 rfl eN))))))))) ?_
     refine cj_seq (fun K23 hK23 => ?_)
     refine cj_region ?_
     refine rv0 rfl rfl rfl (y_move rfl) ?_
     refine rv0 rfl rfl rfl (y_eql rfl rfl) ?_
     refine rv0 rfl rfl rfl (y_move rfl) ?_
     refine rj_part 75 rfl (fun hg75 => ?_) (fun hg75 => ?_)
     ·obtain rfl : e = 0 := by simpa using hg75
      have hkd := ofV_kind colsOf_ok hw hrin (hoe rfl)
      refine rj_val (wn1 rfl rfl rfl rfl) rfl rfl (y_move rfl) ?_
      refine rj_val (wn1 rfl rfl rfl rfl) rfl rfl (y_neq rfl rfl) ?_
      refine rj_eq 77 rfl (v' := .bool false) (by simp [hkd.1]) ?_
      refine rj_val (wn1 rfl rfl rfl rfl) rfl rfl (y_move rfl) ?_
      refine rj_val (wn1 rfl rfl rfl rfl) rfl rfl (y_fieldAddr (k := 0) Try.underlying26 rfl (n := 1) (by decide) Try.sizeOf3 rfl) ?_
      refine rj_val (wn1 rfl rfl rfl rfl) rfl rfl ((y_load ⟨Try.isAgg3, Try.sizeOf3⟩ rfl (by (repeat (first|exact zH _|apply zT));done) rfl)) ?_
      refine rj_val (wn1 rfl rfl rfl rfl) rfl rfl (y_move rfl) ?_
      refine rj_val (wn1 rfl rfl rfl rfl) rfl rfl (y_neq rfl rfl) ?_
      refine rj_val (wn1 rfl rfl rfl rfl) rfl rfl (y_move rfl) ?_
      refine rj_part 83 rfl (fun hg83 => ?_) (fun hg83 => ?_)
      ·have hne : ¬ u.kind = (kindE (colsOf bs) false x).1 := by simpa using hg83
       have hk0 := hkd.2.resolve_right hne
       refine rj_val (wn1 rfl rfl rfl rfl) rfl rfl (y_fieldAddr (k := 0) Try.underlying26 rfl (n := 1) (by decide) Try.sizeOf3 rfl) ?_
       refine rj_val (wn1 rfl rfl rfl rfl) rfl rfl ((y_load ⟨Try.isAgg3, Try.sizeOf3⟩ rfl (by (repeat (first|exact zH _|apply zT));done) rfl)) ?_
       refine rj_val (wn1 rfl rfl rfl rfl) rfl rfl (y_neq rfl rfl) ?_
       refine rj_eq 86 rfl (v' := .bool false) (by simp [hk0]) ?_
       refine rj_val (wn1 rfl rfl rfl rfl) rfl rfl (y_pick_t rfl rfl) ?_
       refine rj_val (wn1 rfl rfl rfl rfl) rfl rfl (y_pick_f rfl rfl) ?_
       refine rv0 rfl rfl rfl (y_pick_t rfl rfl) ?_
       refine rj_nil ?_
       refine hK23 _ _ _ ?_
       refine cj_env (eL 7 rfl (eL 9 rfl (eL 39 rfl (eL 40 rfl (eL 41 rfl (eL 89 rfl eN)))))) ?_
       refine cj_cond_f rfl ?_
       refine cj_skip ?_
       refine hK16 _ _ _ ?_
       refine cj_region ?_
       first | refine rv0 rfl rfl rfl (y_add64 rfl rfl (by (first | omega | (dsimp only; omega) | (simp; done) | (simp; omega)))) ?_ | refine rv0 rfl rfl rfl (y_add rfl rfl) ?_
       refine rv0 rfl rfl rfl (y_move rfl) ?_
       refine rj_nil ?_
       refine ej_on (q' := roundK _ _ _ _ _ _ _) rfl ?_
       refine ej_round (i + 1) (by omega) (by omega) (eC rfl (eC rfl (eC rfl (eC rfl (eC rfl eN))))) rfl (by (repeat (first|exact zR _|(apply zP;focus (repeat (first|exact zH _|apply zT)))|apply zD|exact zA _ _)))
      ·try simp only [dT, dF, nT, nF, tF, fT] at hg83
       refine rj_skip (wn2 rfl rfl rfl rfl rfl) rfl rfl ?_
       refine rj_skip (wn2 rfl rfl rfl rfl rfl) rfl rfl ?_
       refine rj_skip (wn2 rfl rfl rfl rfl rfl) rfl rfl ?_
       refine rj_val (wn1 rfl rfl rfl rfl) rfl rfl (y_pick_f rfl rfl) ?_
       refine rj_val (wn1 rfl rfl rfl rfl) rfl rfl (y_pick_f rfl rfl) ?_
       refine rv0 rfl rfl rfl (y_pick_t rfl rfl) ?_
       refine rj_nil ?_
       refine hK23 _ _ _ ?_
       refine cj_env (eL 7 rfl (eL 9 rfl (eL 39 rfl (eL 40 rfl (eL 41 rfl (eL 89 rfl eN)))))) ?_
       refine cj_cond_f rfl ?_
       refine cj_skip ?_
       refine hK16 _ _ _ ?_
       refine cj_region ?_
       first | refine rv0 rfl rfl rfl (y_add64 rfl rfl (by (first | omega | (dsimp only; omega) | (simp; done) | (simp; omega)))) ?_ | refine rv0 rfl rfl rfl (y_add rfl rfl) ?_
       refine rv0 rfl rfl rfl (y_move rfl) ?_
       refine rj_nil ?_
       refine ej_on (q' := roundK _ _ _ _ _ _ _) rfl ?_
       refine ej_round (i + 1) (by omega) (by omega) (eC rfl (eC rfl (eC rfl (eC rfl (eC rfl eN))))) rfl (by (repeat (first|exact zR _|(apply zP;focus (repeat (first|exact zH _|apply zT)))|apply zD|exact zA _ _)))
     ·try simp only [dT, dF, nT, nF, tF, fT] at hg75
      refine rj_skip (wn2 rfl rfl rfl rfl rfl) rfl rfl ?_
      refine rj_skip (wn2 rfl rfl rfl rfl rfl) rfl rfl ?_
      refine rj_skip (wn2 rfl rfl rfl rfl rfl) rfl rfl ?_
      refine rj_skip (wn3 rfl rfl rfl rfl) rfl rfl ?_
      refine rj_skip (wn3 rfl rfl rfl rfl) rfl rfl ?_
      refine rj_skip (wn3 rfl rfl rfl rfl) rfl rfl ?_
      refine rj_skip (wn3 rfl rfl rfl rfl) rfl rfl ?_
      refine rj_skip (wn3 rfl rfl rfl rfl) rfl rfl ?_
      refine rj_skip (wn3 rfl rfl rfl rfl) rfl rfl ?_
      refine rj_skip (wn3 rfl rfl rfl rfl) rfl rfl ?_
      refine rj_skip (wn3 rfl rfl rfl rfl) rfl rfl ?_
      refine rj_skip (wn3 rfl rfl rfl rfl) rfl rfl ?_
      refine rj_skip (wn2 rfl rfl rfl rfl rfl) rfl rfl ?_
      refine rv0 rfl rfl rfl (y_pick_f rfl rfl) ?_
      refine rj_nil ?_
      refine hK23 _ _ _ ?_
      refine cj_env (eL 7 rfl (eL 9 rfl (eL 39 rfl (eL 40 rfl (eL 41 rfl (eL 89 rfl eN)))))) ?_
      refine cj_cond_f rfl ?_
      refine cj_skip ?_
      refine hK16 _ _ _ ?_
      refine cj_region ?_
      first | refine rv0 rfl rfl rfl (y_add64 rfl rfl (by (first | omega | (dsimp only; omega) | (simp; done) | (simp; omega)))) ?_ | refine rv0 rfl rfl rfl (y_add rfl rfl) ?_
      refine rv0 rfl rfl rfl (y_move rfl) ?_
      refine rj_nil ?_
      refine ej_on (q' := roundK _ _ _ _ _ _ _) rfl ?_
      refine ej_round (i + 1) (by omega) (by omega) (eC rfl (eC rfl (eC rfl (eC rfl (eC rfl eN))))) rfl (by (repeat (first|exact zR _|(apply zP;focus (repeat (first|exact zH _|apply zT)))|apply zD|exact zA _ _)))
    ·try simp only [dT, dF, nT, nF, tF, fT] at hc42
     refine cj_exit ?_
     refine hK11 _ _ _ ?_
     refine cj_env eN ?_
     refine cj_seq (fun K24 hK24 => ?_)
     refine cj_region ?_
     refine rv0 rfl rfl rfl (y_assign rfl) ?_
     refine rj_nil ?_
     refine hK24 _ _ _ ?_
     refine cj_ret ?_
     refine hret _ _ _ ?_
     apply ej_ret Try.results4 (.cons (rv_tmp rfl) .nil) _ [] (by first | exact Hp.le_trans hR0 hR1 | exact Hp.le_trans hR0 (Hp.le_trans hR1 (Hp.le_trans hR2 (Hp.le_trans hR3 (Hp.le_trans hR5 hR6))))) rfl
     case hp => rfl
     case hS => (repeat (first|exact zR _|(apply zP;focus (repeat (first|exact zH _|apply zT)))|apply zD|exact zA _ _))
end V
end Go.Proofs.Ytghgifgmacapcaa
