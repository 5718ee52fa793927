/- Records, done once more. -/
import Derived.Test.YtcgjlhhfldkdaaaT8c
set_option linter.unusedSimpArgs false
set_option linter.unusedVariables false
set_option maxRecDepth 100000
namespace Go.Proofs.Ytcgjlhhfldkdaaa
open Go.RowKit
namespace V
set_option maxHeartbeats 4000000
theorem RepN.kids {R : Hp} {k : Int} {n : Nat} {s : Bs} {l : List Nd} {cx : List Value} (h : RepN R (.mk k n s l) cx) : ∃ q cap, cx = [.int .i64 k, .int .u64 ((n : Nat) : Int), .string (str s), .slice q l.length cap] ∧ RepL R l q cap := by
  obtain ⟨k1, n1, s1, l1, q, cap, e, rfl, _, hl⟩ := h.inv
  cases e
  exact ⟨q, cap, rfl, hl⟩
theorem RepL.mono {R R' : Hp} (hR : R.le R') {l : List Nd} {q : Option Addr} {cap : Nat} (h : RepL R l q cap) : RepL R' l q cap := by
  obtain ⟨k1, n1, s1, l1, q1, cap1, e, e2, _, hl⟩ := ((h.node (k := 0) (n := 0) (s := []) (by simp [big])).mono hR).inv
  cases e
  cases e2
  exact hl
/-- a kid in its place -/
theorem RepL.kid {R : Hp} {l : List Nd} {b off cap : Nat} (h : RepL R l (some ⟨b, off, none⟩) cap) {i : Nat} {k : Int} {n : Nat} {s : Bs} {m : List Nd} (hx : l[i]? = some (.mk k n s m)) :
    ∃ q c, RepL R m q c ∧ Hp.cell R ⟨b, off + i * 4 + 0, none⟩ = some (.int .i64 k) ∧ Hp.cell R ⟨b, off + i * 4 + 1, none⟩ = some (.int .u64 ((n : Nat) : Int)) ∧ Hp.cell R ⟨b, off + i * 4 + 2, none⟩ = some (.string (str s)) ∧ Hp.cell R ⟨b, off + i * 4 + 3, none⟩ = some (.slice q m.length c) := by
  obtain ⟨b1, o1, cs, e, _, hr, hc⟩ := h.at hx
  cases e
  obtain ⟨q, c, rfl, hm⟩ := hr.kids
  exact ⟨q, c, hm, hc 0 _ rfl, hc 1 _ rfl, hc 2 _ rfl, hc 3 _ rfl⟩
theorem entries_t {R : Hp} (l : List Ent) (cx : List Value) (hx : RepN R (listN l) cx) (hb : ∀ e ∈ l, u64B e.1) (hn : l.length ≤ 100000) : Tri Try.prog 34 [.agg ⟨cx⟩] R [] (fun r R' L' => (∃ v, r = tupOf [v, .bool true] ∧ FrX entE R' l v) ∧ L' = []) := by
  obtain ⟨q, cap, rfl, hl⟩ := RepN.kids (k := 2) (n := 0) (s := []) (l := l.map entN) hx
  refine tri_of Try.func34 rfl Try.ntmps34 rfl (fun σ F Q hret hend hpan => ?_)
  try simp only [List.cons_append, List.nil_append]
  refine cj_env (eL 0 rfl eN) ?_
  refine cj_seq (fun K1 hK1 => ?_)
  refine cj_region ?_
  refine rj_box (wn0 rfl) rfl rfl rfl (fun b1 => ?_)
  refine rv0 rfl rfl rfl (y_assign rfl) ?_
  refine rv0 rfl rfl rfl (y_assign rfl) ?_
  refine rj_nil ?_
  refine hK1 _ _ _ ?_
  refine cj_env (eL 1 rfl eN) ?_
  refine cj_seq (fun K2 hK2 => ?_)
  refine cj_region ?_
  refine rv0 rfl rfl rfl (y_assign rfl) ?_
  refine rj_add (A := slc 37 2 (.slice none 0 0) 0 (entsC [])) (slc_nil _ _) ?_
  refine rj_nil ?_
  refine hK2 _ _ _ ?_
  refine cj_seq (fun K3 hK3 => ?_)
  refine cj_seq (fun K4 hK4 => ?_)
  refine cj_region ?_
  refine rv0 rfl rfl rfl (y_fieldAddr (k := 3) Try.underlying62 rfl (n := 1) (by decide) Try.sizeOf60 rfl) ?_
  first | refine rv0 rfl rfl rfl (y_load ⟨Try.isAgg60, Try.sizeOf60⟩ rfl (by (repeat (first|exact zH _|apply zT));done) rfl) ?_ | refine rv0 rfl rfl rfl (y_load_slc ⟨Try.isAgg60, Try.sizeOf60⟩ rfl (by (repeat (first|exact zH _|apply zT));done) rfl) ?_
  first | refine rv0 rfl rfl rfl (y_len_sl Try.underlying60 rfl) ?_ | refine rv0 rfl rfl rfl (y_len_slc Try.underlying60 rfl (by (repeat (first|exact zH _|apply zT));done)) ?_
  refine rv0 rfl rfl rfl (y_move rfl) ?_
  refine rj_nil ?_
  refine hK4 _ _ _ ?_
  refine cj_block ?_
  refine cj_env (E' := (fun (x1 : Nat × Value × Hp) => [(1, .pointer (some ⟨b1, 0, none⟩)), (4, x1.2.1), (8, .slice q (l.map entN).length cap), (9, .int .i64 ((l.map entN).length : Int)), (10, .int .i64 (x1.1 : Int))]) (0, .slice none 0 0, R)) (eC rfl (eC rfl (eC rfl (eC rfl (eC rfl eN))))) ?_
  refine cj_sub (M := (fun (x1 : Nat × Value × Hp) => slc 37 2 x1.2.1 x1.1 (entsC (l.take x1.1)) :: blk b1 [.int .i64 2, .int .u64 0, .string (str []), .slice q (l.map entN).length cap] 62 :: F) (0, .slice none 0 0, R)) (by (repeat (first|exact zR _|(apply zP;focus (repeat (first|exact zH _|apply zT)))|apply zD|exact zA _ _))) ?_
  refine cj_loop (fun (x1 : Nat × Value × Hp) => [(1, .pointer (some ⟨b1, 0, none⟩)), (4, x1.2.1), (8, .slice q (l.map entN).length cap), (9, .int .i64 ((l.map entN).length : Int)), (10, .int .i64 (x1.1 : Int))]) (fun (x1 : Nat × Value × Hp) => x1.2.2) (fun (x1 : Nat × Value × Hp) => slc 37 2 x1.2.1 x1.1 (entsC (l.take x1.1)) :: blk b1 [.int .i64 2, .int .u64 0, .string (str []), .slice q (l.map entN).length cap] 62 :: F) (fun (x1 : Nat × Value × Hp) => x1.1 ≤ l.length ∧ x1.2.1.oneCell' = true ∧ R.le x1.2.2) (fun (x1 : Nat × Value × Hp) => l.length - x1.1) (0, .slice none 0 0, R) (⟨by simp, rfl, Hp.le_refl _⟩) ?_
  rintro ⟨i, vl, R3⟩ ⟨hi, hvl, hR3⟩
  try dsimp only
  dsimp only at hi hvl hR3
  refine cj_seq (fun K5 hK5 => ?_)
  refine cj_region ?_
  refine rv0 rfl rfl rfl (y_lss rfl rfl) ?_
  refine rj_nil ?_
  refine hK5 _ _ _ ?_
  refine cj_seq (fun K6 hK6 => ?_)
  refine cj_cond rfl (fun hc11 => ?_) (fun hc11 => ?_)
  ·try simp only [dT, dF, nT, nF, tF, fT] at hc11
   refine cj_skip ?_
   refine hK6 _ _ _ ?_
   refine cj_seq (fun K8 hK8 => ?_)
   refine cj_block ?_
   refine cj_seq (fun K9 hK9 => ?_)
   refine cj_region ?_
   have hi2 : i < l.length := by (try simp at hc11); omega
   obtain ⟨e, he⟩ : ∃ x, l[i]? = some x := ⟨_, List.getElem?_eq_getElem hi2⟩
   have heb := hb e (List.mem_of_getElem? he)
   obtain ⟨be, oe, ce, rfl, hcl, hrep, hcell⟩ := (hl.mono hR3).at (i := i) (x := entN e) (by rw [List.getElem?_map, he]; rfl)
   obtain ⟨q2, cap2, rfl, hl2⟩ := RepN.kids (k := 2) (n := 0) (s := []) (l := [numN e.1.toNat, strN e.2]) hrep
   obtain ⟨b2, o2, _, rfl, _⟩ := hl2.at (i := 0) rfl
   obtain ⟨_, _, _, _, hc0, _, _⟩ := hl2.kid (i := 0) rfl
   obtain ⟨_, _, _, _, _, hc1, _⟩ := hl2.kid (i := 1) rfl
   rw [(toNat64 heb).2] at hc0
   first | refine rv0 rfl rfl rfl (y_indexAddr Try.underlying60 Try.sizeOf62 rfl rfl (by (first | omega | (dsimp only; omega) | (simp; done) | (simp; omega)))) ?_ | refine rv0 rfl rfl rfl (y_index_slc Try.underlying60 Try.sizeOf62 rfl rfl (by (repeat (first|exact zH _|apply zT));done) (by (first | omega | (dsimp only; omega) | (simp; done) | (simp; omega)))) ?_
   refine rv0 rfl rfl rfl ((y_loads_ro ⟨Try.isAgg62, Try.sizeOf62⟩ (vs := [.int .i64 2, .int .u64 0, .string (str []), .slice (some ⟨b2, o2, none⟩) 2 cap2]) hcl rfl (fun j u hj => hcell j u hj))) ?_
   refine rj_alloc (wn0 rfl) rfl Try.zeroValue62 rfl (fun b6 => ?_)
   refine rj_stores_all (vs := [.int .i64 2, .int .u64 0, .string (str []), .slice (some ⟨b2, o2, none⟩) 2 cap2]) ⟨Try.isAgg62, Try.sizeOf62⟩ hcl (wn0 rfl) rfl rfl (rep_one hrep) (by (repeat (first|exact zH _|apply zT));done) rfl ?_
   refine rj_nil ?_
   refine hK9 _ _ _ ?_
   refine cj_env (eL 1 rfl (eL 4 rfl (eL 6 rfl (eL 8 rfl (eL 9 rfl (eL 10 rfl eN)))))) ?_
   refine cj_seq (fun K10 hK10 => ?_)
   refine cj_seq (fun K11 hK11 => ?_)
   refine cj_region ?_
   refine rv0 rfl rfl rfl (y_fieldAddr (k := 3) Try.underlying62 rfl (n := 1) (by decide) Try.sizeOf60 rfl) ?_
   first | refine rv0 rfl rfl rfl (y_load ⟨Try.isAgg60, Try.sizeOf60⟩ rfl (by (repeat (first|exact zH _|apply zT));done) rfl) ?_ | refine rv0 rfl rfl rfl (y_load_slc ⟨Try.isAgg60, Try.sizeOf60⟩ rfl (by (repeat (first|exact zH _|apply zT));done) rfl) ?_
   refine rj_buildSlice (sz := 1) (wn0 rfl) rfl Try.underlying89 Try.sizeOf3 Try.zeroValue3 rfl rfl rfl (by decide) (by decide) (fun b16 => ?_)
   refine rj_freeze (e := 3) (sz := 1) (n := 2) (v := .slice (some ⟨b16, 0, none⟩) 2 2) (xs := intsV [0, 1]) (by (repeat (first|exact zH _|apply zT));done) (fun R4 hR4 hfr hxl => ?_)
   refine rv0 rfl rfl rfl (y_call Try.call33 rfl (shape_q _ _ _ (hl2.mono hR4) [0, 1] _ (intsFr (l := [0, 1]) hfr)) (by (repeat (first|exact zN _|(apply zS;focus (repeat (first|exact zH _|apply zT))))))) ?_
   refine rj_eq 17 rfl (v' := .bool true) (by simp [numN, strN, Nd.kind]) ?_
   refine rv0 rfl rfl rfl (y_not rfl) ?_
   refine rj_nil ?_
   refine hK11 _ _ _ ?_
   refine cj_env (eL 1 rfl (eL 4 rfl (eL 6 rfl (eL 8 rfl (eL 9 rfl (eL 10 rfl (eL 18 rfl eN))))))) ?_
   refine cj_cond_f rfl ?_
   refine cj_skip ?_
   refine hK10 _ _ _ ?_
   refine cj_mixg (L := [blk b6 [.int .i64 2, .int .u64 0, .string (str []), .slice (some ⟨b2, o2, none⟩) 2 cap2] 62]) [0, 1, 2, 3, 4, 5, 6, 7, 8, 9, 10, 11] [12] [13, 14] _ (by (repeat (first|exact zR _|(apply zP;focus (repeat (first|exact zH _|apply zT)))|apply zD|exact zA _ _))) (by kernel_rfl) (by kernel_rfl) (by kernel_rfl) rfl ?_
   refine fj_val rfl rfl rfl (wn0 rfl) (fun R1 hR1 G => (y_move rfl)) ?_
   refine fj_val rfl rfl rfl (wn0 rfl) (fun R1 hR1 G => (y_fieldAddr (k := 3) Try.underlying62 rfl (n := 1) (by decide) Try.sizeOf60 rfl)) ?_
   first | refine fj_val rfl rfl rfl (wn0 rfl) (fun R1 hR1 G => (y_load ⟨Try.isAgg60, Try.sizeOf60⟩ rfl (by (repeat (first|exact zH _|apply zT));done) rfl)) ?_ | refine fj_val rfl rfl rfl (wn0 rfl) (fun R1 hR1 G => (y_load_slc ⟨Try.isAgg60, Try.sizeOf60⟩ rfl (by (repeat (first|exact zH _|apply zT));done) rfl)) ?_
   first | refine fj_val rfl rfl rfl (wn0 rfl) (fun R1 hR1 G => (y_indexAddr Try.underlying60 Try.sizeOf62 rfl rfl (by (first | omega | (dsimp only; omega) | (simp; done) | (simp; omega))))) ?_ | refine fj_val rfl rfl rfl (wn0 rfl) (fun R1 hR1 G => (y_index_slc Try.underlying60 Try.sizeOf62 rfl rfl (by (repeat (first|exact zH _|apply zT));done) (by (first | omega | (dsimp only; omega) | (simp; done) | (simp; omega))))) ?_
   refine fj_val rfl rfl rfl (wn0 rfl) (fun R1 hR1 G => (y_fieldAddr (k := 1) Try.underlying62 rfl (n := 1) (by decide) Try.sizeOf25 rfl)) ?_
   refine fj_val rfl rfl rfl (wn0 rfl) (fun R1 hR1 G => (y_load_ro ⟨Try.isAgg25, Try.sizeOf25⟩ rfl (cell_mono (Hp.le_trans hR4 hR1) hc0))) ?_
   refine fj_val rfl rfl rfl (wn0 rfl) (fun R1 hR1 G => (y_fieldAddr (k := 3) Try.underlying62 rfl (n := 1) (by decide) Try.sizeOf60 rfl)) ?_
   first | refine fj_val rfl rfl rfl (wn0 rfl) (fun R1 hR1 G => (y_load ⟨Try.isAgg60, Try.sizeOf60⟩ rfl (by (repeat (first|exact zH _|apply zT));done) rfl)) ?_ | refine fj_val rfl rfl rfl (wn0 rfl) (fun R1 hR1 G => (y_load_slc ⟨Try.isAgg60, Try.sizeOf60⟩ rfl (by (repeat (first|exact zH _|apply zT));done) rfl)) ?_
   first | refine fj_val rfl rfl rfl (wn0 rfl) (fun R1 hR1 G => (y_indexAddr Try.underlying60 Try.sizeOf62 rfl rfl (by (first | omega | (dsimp only; omega) | (simp; done) | (simp; omega))))) ?_ | refine fj_val rfl rfl rfl (wn0 rfl) (fun R1 hR1 G => (y_index_slc Try.underlying60 Try.sizeOf62 rfl rfl (by (repeat (first|exact zH _|apply zT));done) (by (first | omega | (dsimp only; omega) | (simp; done) | (simp; omega))))) ?_
   refine fj_val rfl rfl rfl (wn0 rfl) (fun R1 hR1 G => (y_fieldAddr (k := 2) Try.underlying62 rfl (n := 1) (by decide) Try.sizeOf9 rfl)) ?_
   refine fj_val rfl rfl rfl (wn0 rfl) (fun R1 hR1 G => (y_load_ro ⟨Try.isAgg9, Try.sizeOf9⟩ rfl (cell_mono (Hp.le_trans hR4 hR1) hc1))) ?_
   refine fj_val rfl rfl rfl (wn0 rfl) (fun R1 hR1 G => (y_build (cells := [_, _]) [(0, 1), (1, 1)] Try.underlying37 Try.zeroValue37 (fun _ => rfl) rfl rfl)) ?_
   refine fj_nil ?_
   refine xj_rj rfl ?_
   try simp only [List.cons_append, List.nil_append, List.append_nil]
   refine rj_buildSlice (sz := 2) (wn0 rfl) rfl Try.underlying22 Try.sizeOf37 Try.zeroValue37 rfl rfl rfl (by decide) (by decide) (fun b31 => ?_)
   refine rj_xk (by (first | exact Hp.le_refl _ | assumption | exact Hp.le_trans ‹_› ‹_›)) (by (repeat (first|exact zR _|(apply zP;focus (repeat (first|exact zH _|apply zT)))|apply zD|exact zA _ _))) ?_
   refine xj_nil ?_
   try simp only [List.cons_append, List.nil_append, List.append_nil]
   refine rj_append (sz := 2) (by_ := 24) ⟨Try.underlying22, _, _, rfl, rfl, rfl, rfl, rfl⟩ (wn0 rfl) rfl rfl rfl (by (repeat (first|exact zH _|apply zT));done) (src_slc (xs := entC e) Try.underlying22 (by (repeat (first|exact zH _|apply zT));done) (entE.one (R := R4) (x := e) rfl)) rfl (by (first | omega | (dsimp only; omega) | (simp; done) | (simp; omega))) (by simp only [maxLen]; omega) (fun v32 ho32 hh32 => ?_)
   rw [show entsC (l.take i) ++ entC e = entsC (l.take (i + 1)) by unfold entsC; rw [map_snoc he]; simp]
   refine rv0 rfl rfl rfl (y_assign rfl) ?_
   refine rj_nil ?_
   refine hK8 _ _ _ ?_
   refine cj_env (eL 1 rfl (eL 4 rfl (eL 8 rfl (eL 9 rfl (eL 10 rfl eN))))) ?_
   refine cj_region ?_
   first | refine rv0 rfl rfl rfl (y_add64 rfl rfl (by (first | omega | (dsimp only; omega) | (simp; done) | (simp; omega)))) ?_ | refine rv0 rfl rfl rfl (y_add rfl rfl) ?_
   refine rv0 rfl rfl rfl (y_move rfl) ?_
   refine rj_nil ?_
   refine ej_on (q' := roundK _ _ _ _ _ _ _) rfl ?_
   refine ej_round ((i + 1, v32, R4)) (⟨by dsimp only; omega, by assumption, Hp.le_trans hR3 hR4⟩) (by dsimp only; omega) (eC rfl (eC rfl (eC rfl (eC rfl (eC rfl eN))))) rfl (by (repeat (first|exact zR _|(apply zP;focus (repeat (first|exact zH _|apply zT)))|apply zD|exact zA _ _)))
  ·try simp only [dT, dF, nT, nF, tF, fT] at hc11
   refine cj_exit ?_
   refine hK3 _ _ _ ?_
   refine cj_env (eL 1 rfl (eL 4 rfl eN)) ?_
   refine cj_seq (fun K12 hK12 => ?_)
   obtain rfl : i = l.length := by (try simp at hc11); omega
   rw [List.take_length]
   refine cj_freeze (e := 37) (sz := 2) (n := l.length) (v := vl) (xs := entsC l) (by (repeat (first|exact zH _|apply zT));done) (fun R5 hR5 hfr5 hxl5 => ?_)
   have hfx := entsFr hfr5
   obtain ⟨q5, cap5, rfl, _, _⟩ := hfx.shape
   refine cj_draw (by kernel_rfl) (by kernel_rfl) ?_
   refine qj_val (wn0 rfl) rfl rfl (y_move rfl) ?_
   refine qj_val (wn0 rfl) rfl rfl (y_fieldAddr (k := 0) Try.underlying62 rfl (n := 1) (by decide) Try.sizeOf3 rfl) ?_
   first | refine qj_val (wn0 rfl) rfl rfl (y_load ⟨Try.isAgg3, Try.sizeOf3⟩ rfl (by (repeat (first|exact zH _|apply zT));done) rfl) ?_ | refine qj_val (wn0 rfl) rfl rfl (y_load_slc ⟨Try.isAgg3, Try.sizeOf3⟩ rfl (by (repeat (first|exact zH _|apply zT));done) rfl) ?_
   refine qj_val (wn0 rfl) rfl rfl (y_eql rfl rfl) ?_
   refine qj_val (wn0 rfl) rfl rfl (y_assign rfl) ?_
   refine qj_val (wn0 rfl) rfl rfl (y_assign rfl) ?_
   refine qj_nil ?_
   refine hK12 _ _ _ ?_
   refine cj_env (eL 2 rfl (eL 3 rfl eN)) ?_
   refine cj_ret ?_
   refine hret _ _ _ ?_
   apply ej_ret Try.results34 (.cons (rv_tmp rfl) (.cons (rv_tmp rfl) .nil)) _ [] (by exact Hp.le_trans hR3 hR5) rfl
   case hp => exact ⟨⟨_, rfl, hfx⟩, rfl⟩
   case hS => (repeat (first|exact zR _|(apply zP;focus (repeat (first|exact zH _|apply zT)))|apply zD|exact zA _ _))
theorem replayTerm_t {R : Hp} (b : Nat) (d : Option Addr) (va : Value) (g : LG) (t v : Int) (hm : (Rec.term t v).may g) (cx : List Value) (hx : RepN R (Rec.term t v).nd cx) :
    Tri Try.prog 20 [.pointer (some ⟨b, 0, none⟩), .agg ⟨cx⟩] R [lgB b d va g] (fun x R' L' => x = .bool true ∧ L' = [lgB b d va (g.play (.term t v))]) := by
  obtain ⟨h1, h2, h3⟩ := hm
  obtain ⟨q, cap, rfl, hl⟩ := RepN.kids (k := 2) (n := 0) (s := []) (l := [numN 0, numN t.toNat, numN (v + 1).toNat]) hx
  obtain ⟨b0, o0, _, rfl, _⟩ := hl.at (i := 0) rfl
  obtain ⟨_, _, _, hk0, hn0, _, _⟩ := hl.kid (i := 0) rfl
  obtain ⟨_, _, _, _, hn1, _, _⟩ := hl.kid (i := 1) rfl
  obtain ⟨_, _, _, _, hn2, _, _⟩ := hl.kid (i := 2) rfl
  rw [(toNat64 h1).2] at hn1
  rw [show (((v + 1).toNat : Nat) : Int) = v + 1 by omega] at hn2
  refine tri_of Try.func20 rfl Try.ntmps20 rfl (fun σ F Q hret hend hpan => ?_)
  try simp only [List.cons_append, List.nil_append]
  refine cj_env (eL 0 rfl (eL 1 rfl eN)) ?_
  unfold lgB lgC
  refine cj_seq (fun K1 hK1 => ?_)
  refine cj_region ?_
  refine rj_box (wn0 rfl) rfl rfl rfl (fun bx => ?_)
  refine rv0 rfl rfl rfl (y_assign rfl) ?_
  refine rj_nil ?_
  refine hK1 _ _ _ ?_
  refine cj_seq (fun K2 hK2 => ?_)
  refine cj_seq (fun K3 hK3 => ?_)
  refine cj_region ?_
  refine rv0 rfl rfl rfl (y_fieldAddr (k := 3) Try.underlying62 rfl (n := 1) (by decide) Try.sizeOf60 rfl) ?_
  first | refine rv0 rfl rfl rfl (y_load ⟨Try.isAgg60, Try.sizeOf60⟩ rfl (by (repeat (first|exact zH _|apply zT));done) rfl) ?_ | refine rv0 rfl rfl rfl (y_load_slc ⟨Try.isAgg60, Try.sizeOf60⟩ rfl (by (repeat (first|exact zH _|apply zT));done) rfl) ?_
  first | refine rv0 rfl rfl rfl (y_len_sl Try.underlying60 rfl) ?_ | refine rv0 rfl rfl rfl (y_len_slc Try.underlying60 rfl (by (repeat (first|exact zH _|apply zT));done)) ?_
  refine rv0 rfl rfl rfl (y_eql rfl rfl) ?_
  refine rv0 rfl rfl rfl (y_move rfl) ?_
  refine rj_val (wn1 rfl rfl rfl rfl) rfl rfl (y_fieldAddr (k := 3) Try.underlying62 rfl (n := 1) (by decide) Try.sizeOf60 rfl) ?_
  first | refine rj_val (wn1 rfl rfl rfl rfl) rfl rfl (y_load ⟨Try.isAgg60, Try.sizeOf60⟩ rfl (by (repeat (first|exact zH _|apply zT));done) rfl) ?_ | refine rj_val (wn1 rfl rfl rfl rfl) rfl rfl (y_load_slc ⟨Try.isAgg60, Try.sizeOf60⟩ rfl (by (repeat (first|exact zH _|apply zT));done) rfl) ?_
  first | refine rj_val (wn1 rfl rfl rfl rfl) rfl rfl (y_indexAddr Try.underlying60 Try.sizeOf62 rfl rfl (by (first | omega | (dsimp only; omega) | (simp; done) | (simp; omega)))) ?_ | refine rj_val (wn1 rfl rfl rfl rfl) rfl rfl (y_index_slc Try.underlying60 Try.sizeOf62 rfl rfl (by (repeat (first|exact zH _|apply zT));done) (by (first | omega | (dsimp only; omega) | (simp; done) | (simp; omega)))) ?_
  refine rj_val (wn1 rfl rfl rfl rfl) rfl rfl (y_fieldAddr (k := 0) Try.underlying62 rfl (n := 1) (by decide) Try.sizeOf3 rfl) ?_
  refine rj_val (wn1 rfl rfl rfl rfl) rfl rfl ((y_load_ro ⟨Try.isAgg3, Try.sizeOf3⟩ rfl hk0)) ?_
  refine rj_val (wn1 rfl rfl rfl rfl) rfl rfl (y_neq rfl rfl) ?_
  refine rv0 rfl rfl rfl (y_pick_f rfl rfl) ?_
  refine rj_nil ?_
  refine hK3 _ _ _ ?_
  refine cj_env (eL 0 rfl (eL 3 rfl (eL 21 rfl eN))) ?_
  refine cj_cond_f rfl ?_
  refine cj_skip ?_
  refine hK2 _ _ _ ?_
  refine cj_seq (fun K4 hK4 => ?_)
  refine cj_region ?_
  refine rv0 rfl rfl rfl (y_fieldAddr (k := 3) Try.underlying62 rfl (n := 1) (by decide) Try.sizeOf60 rfl) ?_
  first | refine rv0 rfl rfl rfl (y_load ⟨Try.isAgg60, Try.sizeOf60⟩ rfl (by (repeat (first|exact zH _|apply zT));done) rfl) ?_ | refine rv0 rfl rfl rfl (y_load_slc ⟨Try.isAgg60, Try.sizeOf60⟩ rfl (by (repeat (first|exact zH _|apply zT));done) rfl) ?_
  refine rv0 rfl rfl rfl (y_assign rfl) ?_
  refine rj_nil ?_
  refine hK4 _ _ _ ?_
  refine cj_env (eL 0 rfl (eL 5 rfl eN)) ?_
  refine cj_seq (fun K5 hK5 => ?_)
  refine cj_block ?_
  refine cj_seq (fun K6 hK6 => ?_)
  refine cj_region ?_
  refine rv0 rfl rfl rfl (y_move rfl) ?_
  first | refine rv0 rfl rfl rfl (y_indexAddr Try.underlying60 Try.sizeOf62 rfl rfl (by (first | omega | (dsimp only; omega) | (simp; done) | (simp; omega)))) ?_ | refine rv0 rfl rfl rfl (y_index_slc Try.underlying60 Try.sizeOf62 rfl rfl (by (repeat (first|exact zH _|apply zT));done) (by (first | omega | (dsimp only; omega) | (simp; done) | (simp; omega)))) ?_
  refine rv0 rfl rfl rfl (y_fieldAddr (k := 1) Try.underlying62 rfl (n := 1) (by decide) Try.sizeOf25 rfl) ?_
  refine rv0 rfl rfl rfl ((y_load_ro ⟨Try.isAgg25, Try.sizeOf25⟩ rfl hn0)) ?_
  refine rv0 rfl rfl rfl (y_eql rfl rfl) ?_
  refine rv0 rfl rfl rfl (y_move rfl) ?_
  refine rj_val (wn1 rfl rfl rfl rfl) rfl rfl (y_move rfl) ?_
  refine rj_buildSlice (sz := 1) (wn1 rfl rfl rfl rfl) rfl Try.underlying89 Try.sizeOf3 Try.zeroValue3 rfl rfl rfl (by decide) (by decide) (fun b32 => ?_)
  refine rj_freeze (e := 3) (sz := 1) (n := 3) (v := .slice (some ⟨b32, 0, none⟩) 3 3) (xs := intsV [0, 0, 0]) (by (repeat (first|exact zH _|apply zT));done) (fun R4 hR4 hfr hxl => ?_)
  refine rj_val (wn1 rfl rfl rfl rfl) rfl rfl (y_call Try.call33 rfl (shape_q _ _ _ (hl.mono hR4) [0, 0, 0] _ (intsFr (l := [0, 0, 0]) hfr)) (by (repeat (first|exact zN _|(apply zS;focus (repeat (first|exact zH _|apply zT))))))) ?_
  refine rj_eq 33 rfl (v' := .bool true) (by simp [numN, strN, listN, Nd.kind]) ?_
  refine rv0 rfl rfl rfl (y_pick_t rfl rfl) ?_
  refine rv0 rfl rfl rfl (y_assign rfl) ?_
  refine rj_nil ?_
  refine hK6 _ _ _ ?_
  refine cj_env (eL 0 rfl (eL 5 rfl (eL 24 rfl eN))) ?_
  refine cj_cond_t rfl ?_
  refine cj_seq (fun K7 hK7 => ?_)
  refine cj_mixg (L := []) [0, 1, 2, 3, 4, 5, 6, 7, 8, 9, 10, 11, 12, 13] [14] [15, 16, 17] _ (by (repeat (first|exact zR _|(apply zP;focus (repeat (first|exact zH _|apply zT)))|apply zD|exact zA _ _))) (by kernel_rfl) (by kernel_rfl) (by kernel_rfl) rfl ?_
  refine fj_val rfl rfl rfl (wn0 rfl) (fun R1 hR1 G => (y_move rfl)) ?_
  refine fj_val rfl rfl rfl (wn0 rfl) (fun R1 hR1 G => (y_move rfl)) ?_
  refine fj_val rfl rfl rfl (wn0 rfl) (fun R1 hR1 G => (y_move rfl)) ?_
  first | refine fj_val rfl rfl rfl (wn0 rfl) (fun R1 hR1 G => (y_indexAddr Try.underlying60 Try.sizeOf62 rfl rfl (by (first | omega | (dsimp only; omega) | (simp; done) | (simp; omega))))) ?_ | refine fj_val rfl rfl rfl (wn0 rfl) (fun R1 hR1 G => (y_index_slc Try.underlying60 Try.sizeOf62 rfl rfl (by (repeat (first|exact zH _|apply zT));done) (by (first | omega | (dsimp only; omega) | (simp; done) | (simp; omega))))) ?_
  refine fj_val rfl rfl rfl (wn0 rfl) (fun R1 hR1 G => (y_fieldAddr (k := 1) Try.underlying62 rfl (n := 1) (by decide) Try.sizeOf25 rfl)) ?_
  refine fj_val rfl rfl rfl (wn0 rfl) (fun R1 hR1 G => (y_load_ro ⟨Try.isAgg25, Try.sizeOf25⟩ rfl (cell_mono (Hp.le_trans hR4 hR1) hn1))) ?_
  refine fj_val rfl rfl rfl (wn0 rfl) (fun R1 hR1 G => (y_move rfl)) ?_
  first | refine fj_val rfl rfl rfl (wn0 rfl) (fun R1 hR1 G => (y_indexAddr Try.underlying60 Try.sizeOf62 rfl rfl (by (first | omega | (dsimp only; omega) | (simp; done) | (simp; omega))))) ?_ | refine fj_val rfl rfl rfl (wn0 rfl) (fun R1 hR1 G => (y_index_slc Try.underlying60 Try.sizeOf62 rfl rfl (by (repeat (first|exact zH _|apply zT));done) (by (first | omega | (dsimp only; omega) | (simp; done) | (simp; omega))))) ?_
  refine fj_val rfl rfl rfl (wn0 rfl) (fun R1 hR1 G => (y_fieldAddr (k := 1) Try.underlying62 rfl (n := 1) (by decide) Try.sizeOf25 rfl)) ?_
  refine fj_val rfl rfl rfl (wn0 rfl) (fun R1 hR1 G => (y_load_ro ⟨Try.isAgg25, Try.sizeOf25⟩ rfl (cell_mono (Hp.le_trans hR4 hR1) hn2))) ?_
  refine fj_val rfl rfl rfl (wn0 rfl) (fun R1 hR1 G => (y_conv_in Try.underlying25 Try.underlying3 rfl (by (simp only [IntKind.min, IntKind.max, IntKind.signed, IntKind.bits, Bool.false_eq_true, ite_false, ite_true]; omega)))) ?_
  refine fj_val rfl rfl rfl (wn0 rfl) (fun R1 hR1 G => (Yld.to (y_sub64 rfl rfl (by omega)) (u := .int .i64 v) (by rw [show v + 1 - 1 = v by omega]))) ?_
  refine fj_val rfl rfl rfl (wn0 rfl) (fun R1 hR1 G => (y_nilCheck rfl)) ?_
  refine fj_val rfl rfl rfl (wn0 rfl) (fun R1 hR1 G => (y_fieldAddr (k := 2) Try.underlying58 rfl (n := 1) (by decide) Try.sizeOf25 rfl)) ?_
  refine fj_nil ?_
  refine xj_rj rfl ?_
  try simp only [List.cons_append, List.nil_append, List.append_nil]
  refine rj_store ⟨Try.isAgg25, Try.sizeOf25⟩ (wn0 rfl) rfl rfl (by (first | rfl | assumption | (apply cutV_one; assumption))) (by (repeat (first|exact zH _|apply zT));done) rfl rfl ?_
  refine rj_xk (by (first | exact Hp.le_refl _ | assumption | exact Hp.le_trans ‹_› ‹_›)) (by (repeat (first|exact zR _|(apply zP;focus (repeat (first|exact zH _|apply zT)))|apply zD|exact zA _ _))) ?_
  refine xj_nil ?_
  try simp only [List.cons_append, List.nil_append, List.append_nil]
  refine rv0 rfl rfl rfl (y_nilCheck rfl) ?_
  refine rv0 rfl rfl rfl (y_fieldAddr (k := 3) Try.underlying58 rfl (n := 1) (by decide) Try.sizeOf3 rfl) ?_
  refine rj_store ⟨Try.isAgg3, Try.sizeOf3⟩ (wn0 rfl) rfl rfl (by (first | rfl | assumption | (apply cutV_one; assumption))) (by (repeat (first|exact zH _|apply zT));done) rfl rfl ?_
  refine rj_nil ?_
  refine hK7 _ _ _ ?_
  refine cj_env eN ?_
  refine cj_seq (fun K8 hK8 => ?_)
  refine cj_region ?_
  refine rv0 rfl rfl rfl (y_assign rfl) ?_
  refine rj_nil ?_
  refine hK8 _ _ _ ?_
  refine cj_ret ?_
  refine hret _ _ _ ?_
  apply ej_ret Try.results20 (.cons (rv_tmp rfl) .nil) _ [lgB b d va (g.play (.term t v))] (by (first | exact Hp.le_refl _ | assumption | exact Hp.le_trans ‹_› ‹_›)) rfl
  case hp => exact ⟨rfl, rfl⟩
  case hS => (repeat (first|exact zR _|(apply zP;focus (repeat (first|exact zH _|apply zT)))|apply zD|exact zA _ _))
theorem replayAdd_t {R : Hp} (b : Nat) (d : Option Addr) (va : Value) (g : LG) (i : Int) (m : List Ent) (hg : g.ok) (hm : (Rec.add i m).may g) (hva : FrX entE R g.all va) (cx : List Value) (hx : RepN R (Rec.add i m).nd cx) :
    Tri Try.prog 20 [.pointer (some ⟨b, 0, none⟩), .agg ⟨cx⟩] R [lgB b d va g] (fun x R' L' => x = .bool true ∧ ∃ va', FrX entE R' (g.play (.add i m)).all va' ∧ L' = [lgB b d va' (g.play (.add i m))]) := by
  obtain ⟨⟨h1, h2⟩, h3, h4⟩ := hm
  have hb := hg.base
  obtain ⟨q, cap, rfl, hl⟩ := RepN.kids (k := 2) (n := 0) (s := []) (l := [numN 1, numN i.toNat, listN m]) hx
  obtain ⟨b0, o0, _, rfl, _⟩ := hl.at (i := 0) rfl
  obtain ⟨_, _, _, hk0, hn0, _, _⟩ := hl.kid (i := 0) rfl
  obtain ⟨_, _, _, _, hn1, _, _⟩ := hl.kid (i := 1) rfl
  obtain ⟨_, _, _, e2, _, hr2, hcell2⟩ := hl.at (i := 2) (x := listN m) rfl
  cases e2
  obtain ⟨q2, cap2, rfl, hl2⟩ := RepN.kids (k := 2) (n := 0) (s := []) (l := m.map entN) hr2
  rw [show ((i.toNat : Nat) : Int) = i by omega] at hn1
  have hlq := lgLast_q (R := R) b d va g hg hva
  refine tri_of Try.func20 rfl Try.ntmps20 rfl (fun σ F Q hret hend hpan => ?_)
  try simp only [List.cons_append, List.nil_append]
  refine cj_env (eL 0 rfl (eL 1 rfl eN)) ?_
  unfold lgB lgC
  refine cj_seq (fun K1 hK1 => ?_)
  refine cj_region ?_
  refine rj_box (wn0 rfl) rfl rfl rfl (fun bx => ?_)
  refine rv0 rfl rfl rfl (y_assign rfl) ?_
  refine rj_nil ?_
  refine hK1 _ _ _ ?_
  refine cj_seq (fun K2 hK2 => ?_)
  refine cj_seq (fun K3 hK3 => ?_)
  refine cj_region ?_
  refine rv0 rfl rfl rfl (y_fieldAddr (k := 3) Try.underlying62 rfl (n := 1) (by decide) Try.sizeOf60 rfl) ?_
  first | refine rv0 rfl rfl rfl (y_load ⟨Try.isAgg60, Try.sizeOf60⟩ rfl (by (repeat (first|exact zH _|apply zT));done) rfl) ?_ | refine rv0 rfl rfl rfl (y_load_slc ⟨Try.isAgg60, Try.sizeOf60⟩ rfl (by (repeat (first|exact zH _|apply zT));done) rfl) ?_
  first | refine rv0 rfl rfl rfl (y_len_sl Try.underlying60 rfl) ?_ | refine rv0 rfl rfl rfl (y_len_slc Try.underlying60 rfl (by (repeat (first|exact zH _|apply zT));done)) ?_
  refine rv0 rfl rfl rfl (y_eql rfl rfl) ?_
  refine rv0 rfl rfl rfl (y_move rfl) ?_
  refine rj_val (wn1 rfl rfl rfl rfl) rfl rfl (y_fieldAddr (k := 3) Try.underlying62 rfl (n := 1) (by decide) Try.sizeOf60 rfl) ?_
  first | refine rj_val (wn1 rfl rfl rfl rfl) rfl rfl (y_load ⟨Try.isAgg60, Try.sizeOf60⟩ rfl (by (repeat (first|exact zH _|apply zT));done) rfl) ?_ | refine rj_val (wn1 rfl rfl rfl rfl) rfl rfl (y_load_slc ⟨Try.isAgg60, Try.sizeOf60⟩ rfl (by (repeat (first|exact zH _|apply zT));done) rfl) ?_
  first | refine rj_val (wn1 rfl rfl rfl rfl) rfl rfl (y_indexAddr Try.underlying60 Try.sizeOf62 rfl rfl (by (first | omega | (dsimp only; omega) | (simp; done) | (simp; omega)))) ?_ | refine rj_val (wn1 rfl rfl rfl rfl) rfl rfl (y_index_slc Try.underlying60 Try.sizeOf62 rfl rfl (by (repeat (first|exact zH _|apply zT));done) (by (first | omega | (dsimp only; omega) | (simp; done) | (simp; omega)))) ?_
  refine rj_val (wn1 rfl rfl rfl rfl) rfl rfl (y_fieldAddr (k := 0) Try.underlying62 rfl (n := 1) (by decide) Try.sizeOf3 rfl) ?_
  refine rj_val (wn1 rfl rfl rfl rfl) rfl rfl ((y_load_ro ⟨Try.isAgg3, Try.sizeOf3⟩ rfl hk0)) ?_
  refine rj_val (wn1 rfl rfl rfl rfl) rfl rfl (y_neq rfl rfl) ?_
  refine rv0 rfl rfl rfl (y_pick_f rfl rfl) ?_
  refine rj_nil ?_
  refine hK3 _ _ _ ?_
  refine cj_env (eL 0 rfl (eL 3 rfl (eL 21 rfl eN))) ?_
  refine cj_cond_f rfl ?_
  refine cj_skip ?_
  refine hK2 _ _ _ ?_
  refine cj_seq (fun K4 hK4 => ?_)
  refine cj_region ?_
  refine rv0 rfl rfl rfl (y_fieldAddr (k := 3) Try.underlying62 rfl (n := 1) (by decide) Try.sizeOf60 rfl) ?_
  first | refine rv0 rfl rfl rfl (y_load ⟨Try.isAgg60, Try.sizeOf60⟩ rfl (by (repeat (first|exact zH _|apply zT));done) rfl) ?_ | refine rv0 rfl rfl rfl (y_load_slc ⟨Try.isAgg60, Try.sizeOf60⟩ rfl (by (repeat (first|exact zH _|apply zT));done) rfl) ?_
  refine rv0 rfl rfl rfl (y_assign rfl) ?_
  refine rj_nil ?_
  refine hK4 _ _ _ ?_
  refine cj_env (eL 0 rfl (eL 5 rfl eN)) ?_
  refine cj_seq (fun K5 hK5 => ?_)
  refine cj_block ?_
  refine cj_seq (fun K6 hK6 => ?_)
  refine cj_region ?_
  refine rv0 rfl rfl rfl (y_move rfl) ?_
  first | refine rv0 rfl rfl rfl (y_indexAddr Try.underlying60 Try.sizeOf62 rfl rfl (by (first | omega | (dsimp only; omega) | (simp; done) | (simp; omega)))) ?_ | refine rv0 rfl rfl rfl (y_index_slc Try.underlying60 Try.sizeOf62 rfl rfl (by (repeat (first|exact zH _|apply zT));done) (by (first | omega | (dsimp only; omega) | (simp; done) | (simp; omega)))) ?_
  refine rv0 rfl rfl rfl (y_fieldAddr (k := 1) Try.underlying62 rfl (n := 1) (by decide) Try.sizeOf25 rfl) ?_
  refine rv0 rfl rfl rfl ((y_load_ro ⟨Try.isAgg25, Try.sizeOf25⟩ rfl hn0)) ?_
  refine rv0 rfl rfl rfl (y_eql rfl rfl) ?_
  refine rv0 rfl rfl rfl (y_move rfl) ?_
  refine rj_skip (wn2 rfl rfl rfl rfl rfl) rfl rfl ?_
  refine rj_skip (wn2 rfl rfl rfl rfl rfl) rfl rfl ?_
  refine rj_skip (wn2 rfl rfl rfl rfl rfl) rfl rfl ?_
  refine rv0 rfl rfl rfl (y_pick_f rfl rfl) ?_
  refine rv0 rfl rfl rfl (y_assign rfl) ?_
  refine rj_nil ?_
  refine hK6 _ _ _ ?_
  refine cj_env (eL 0 rfl (eL 5 rfl (eL 24 rfl eN))) ?_
  refine cj_cond_f rfl ?_
  refine cj_seq (fun K7 hK7 => ?_)
  refine cj_region ?_
  refine rv0 rfl rfl rfl (y_move rfl) ?_
  first | refine rv0 rfl rfl rfl (y_indexAddr Try.underlying60 Try.sizeOf62 rfl rfl (by (first | omega | (dsimp only; omega) | (simp; done) | (simp; omega)))) ?_ | refine rv0 rfl rfl rfl (y_index_slc Try.underlying60 Try.sizeOf62 rfl rfl (by (repeat (first|exact zH _|apply zT));done) (by (first | omega | (dsimp only; omega) | (simp; done) | (simp; omega)))) ?_
  refine rv0 rfl rfl rfl (y_fieldAddr (k := 1) Try.underlying62 rfl (n := 1) (by decide) Try.sizeOf25 rfl) ?_
  refine rv0 rfl rfl rfl ((y_load_ro ⟨Try.isAgg25, Try.sizeOf25⟩ rfl hn0)) ?_
  refine rv0 rfl rfl rfl (y_eql rfl rfl) ?_
  refine rv0 rfl rfl rfl (y_move rfl) ?_
  refine rj_val (wn1 rfl rfl rfl rfl) rfl rfl (y_move rfl) ?_
  refine rj_buildSlice (sz := 1) (wn1 rfl rfl rfl rfl) rfl Try.underlying89 Try.sizeOf3 Try.zeroValue3 rfl rfl rfl (by decide) (by decide) (fun b59 => ?_)
  refine rj_freeze (e := 3) (sz := 1) (n := 3) (v := .slice (some ⟨b59, 0, none⟩) 3 3) (xs := intsV [0, 0, 2]) (by (repeat (first|exact zH _|apply zT));done) (fun R4 hR4 hfr hxl => ?_)
  refine rj_val (wn1 rfl rfl rfl rfl) rfl rfl (y_call Try.call33 rfl (shape_q _ _ _ (hl.mono hR4) [0, 0, 2] _ (intsFr (l := [0, 0, 2]) hfr)) (by (repeat (first|exact zN _|(apply zS;focus (repeat (first|exact zH _|apply zT))))))) ?_
  refine rj_eq 60 rfl (v' := .bool true) (by simp [numN, strN, listN, Nd.kind]) ?_
  refine rv0 rfl rfl rfl (y_pick_t rfl rfl) ?_
  refine rv0 rfl rfl rfl (y_assign rfl) ?_
  refine rj_nil ?_
  refine hK7 _ _ _ ?_
  refine cj_env (eL 0 rfl (eL 5 rfl (eL 51 rfl eN))) ?_
  refine cj_cond_t rfl ?_
  refine cj_seq (fun K8 hK8 => ?_)
  refine cj_region ?_
  refine rv0 rfl rfl rfl (y_move rfl) ?_
  first | refine rv0 rfl rfl rfl (y_indexAddr Try.underlying60 Try.sizeOf62 rfl rfl (by (first | omega | (dsimp only; omega) | (simp; done) | (simp; omega)))) ?_ | refine rv0 rfl rfl rfl (y_index_slc Try.underlying60 Try.sizeOf62 rfl rfl (by (repeat (first|exact zH _|apply zT));done) (by (first | omega | (dsimp only; omega) | (simp; done) | (simp; omega)))) ?_
  refine rv0 rfl rfl rfl ((y_loads_ro ⟨Try.isAgg62, Try.sizeOf62⟩ (vs := [.int .i64 2, .int .u64 0, .string (str []), .slice q2 (m.map entN).length cap2]) rfl rfl (fun j u hj => cell_mono hR4 (hcell2 j u hj)))) ?_
  refine rj_call (wn0 rfl) rfl Try.call34 rfl (entries_t m _ (hr2.mono hR4) (fun e he => (h3 e he).1) h4) (by (repeat (first|exact zN _|(apply zS;focus (repeat (first|exact zH _|apply zT)))))) (fun _ _ _ _ h => h.elim) ?_
  rintro r R5 L' hR5 ⟨⟨vm, rfl, hvm⟩, rfl⟩
  try simp only [List.cons_append, List.nil_append]
  refine rv0 rfl rfl rfl (y_move rfl) ?_
  refine rv0 rfl rfl rfl (y_extract rfl rfl) ?_
  refine rv0 rfl rfl rfl (y_extract rfl rfl) ?_
  refine rv0 rfl rfl rfl (y_assign rfl) ?_
  refine rv0 rfl rfl rfl (y_assign rfl) ?_
  refine rj_nil ?_
  refine hK8 _ _ _ ?_
  refine cj_env (eL 0 rfl (eL 5 rfl (eL 6 rfl (eL 7 rfl eN)))) ?_
  refine cj_seq (fun K9 hK9 => ?_)
  refine cj_seq (fun K10 hK10 => ?_)
  refine cj_draw (by kernel_rfl) (by kernel_rfl) ?_
  refine qj_val (wn0 rfl) rfl rfl (y_move rfl) ?_
  refine qj_val (wn0 rfl) rfl rfl (y_not rfl) ?_
  refine qj_val (wn0 rfl) rfl rfl (y_move rfl) ?_
  refine qj_val (wn1 rfl rfl rfl rfl) rfl rfl (y_move rfl) ?_
  first | refine qj_val (wn1 rfl rfl rfl rfl) rfl rfl (y_indexAddr Try.underlying60 Try.sizeOf62 rfl rfl (by (first | omega | (dsimp only; omega) | (simp; done) | (simp; omega)))) ?_ | refine qj_val (wn1 rfl rfl rfl rfl) rfl rfl (y_index_slc Try.underlying60 Try.sizeOf62 rfl rfl (by (repeat (first|exact zH _|apply zT));done) (by (first | omega | (dsimp only; omega) | (simp; done) | (simp; omega)))) ?_
  refine qj_val (wn1 rfl rfl rfl rfl) rfl rfl (y_fieldAddr (k := 1) Try.underlying62 rfl (n := 1) (by decide) Try.sizeOf25 rfl) ?_
  refine qj_val (wn1 rfl rfl rfl rfl) rfl rfl ((y_load_ro ⟨Try.isAgg25, Try.sizeOf25⟩ rfl (cell_mono (Hp.le_trans hR4 hR5) hn1))) ?_
  refine qj_val (wn1 rfl rfl rfl rfl) rfl rfl (y_move rfl) ?_
  refine qj_val (wn1 rfl rfl rfl rfl) rfl rfl (y_nilCheck rfl) ?_
  refine qj_val (wn1 rfl rfl rfl rfl) rfl rfl (y_fieldAddr (k := 4) Try.underlying58 rfl (n := 1) (by decide) Try.sizeOf25 rfl) ?_
  first | refine qj_val (wn1 rfl rfl rfl rfl) rfl rfl (y_load ⟨Try.isAgg25, Try.sizeOf25⟩ rfl (by (repeat (first|exact zH _|apply zT));done) rfl) ?_ | refine qj_val (wn1 rfl rfl rfl rfl) rfl rfl (y_load_slc ⟨Try.isAgg25, Try.sizeOf25⟩ rfl (by (repeat (first|exact zH _|apply zT));done) rfl) ?_
  refine qj_val (wn1 rfl rfl rfl rfl) rfl rfl ((Yld.to (u := .bool false) (y_lss rfl rfl) (by rw [decide_eq_false (by omega)]))) ?_
  refine qj_val (wn0 rfl) rfl rfl (y_pick_f rfl rfl) ?_
  refine qj_val (wn0 rfl) rfl rfl (y_move rfl) ?_
  refine qj_val (wn1 rfl rfl rfl rfl) rfl rfl (y_move rfl) ?_
  first | refine qj_val (wn1 rfl rfl rfl rfl) rfl rfl (y_indexAddr Try.underlying60 Try.sizeOf62 rfl rfl (by (first | omega | (dsimp only; omega) | (simp; done) | (simp; omega)))) ?_ | refine qj_val (wn1 rfl rfl rfl rfl) rfl rfl (y_index_slc Try.underlying60 Try.sizeOf62 rfl rfl (by (repeat (first|exact zH _|apply zT));done) (by (first | omega | (dsimp only; omega) | (simp; done) | (simp; omega)))) ?_
  refine qj_val (wn1 rfl rfl rfl rfl) rfl rfl (y_fieldAddr (k := 1) Try.underlying62 rfl (n := 1) (by decide) Try.sizeOf25 rfl) ?_
  refine qj_val (wn1 rfl rfl rfl rfl) rfl rfl ((y_load_ro ⟨Try.isAgg25, Try.sizeOf25⟩ rfl (cell_mono (Hp.le_trans hR4 hR5) hn1))) ?_
  refine qj_val (wn1 rfl rfl rfl rfl) rfl rfl (y_move rfl) ?_
  refine qj_val (wn1 rfl rfl rfl rfl) rfl rfl (y_call Try.call15 rfl (lgLast_q b d va g hg (hva.mono (Hp.le_trans hR4 hR5))) (by (repeat (first|exact zN _|(apply zS;focus (repeat (first|exact zH _|apply zT))))))) ?_
  refine qj_val (wn1 rfl rfl rfl rfl) rfl rfl ((Yld.to (u := .bool false) (y_gtr rfl rfl) (by rw [decide_eq_false (by omega)]))) ?_
  refine qj_val (wn0 rfl) rfl rfl (y_pick_f rfl rfl) ?_
  refine qj_nil ?_
  refine hK10 _ _ _ ?_
  refine cj_env (eL 0 rfl (eL 5 rfl (eL 6 rfl (eL 90 rfl eN)))) ?_
  refine cj_cond_f rfl ?_
  refine cj_skip ?_
  refine hK9 _ _ _ ?_
  refine cj_seq (fun K11 hK11 => ?_)
  refine cj_region ?_
  refine rv0 rfl rfl rfl (y_move rfl) ?_
  refine rv0 rfl rfl rfl (y_move rfl) ?_
  first | refine rv0 rfl rfl rfl (y_indexAddr Try.underlying60 Try.sizeOf62 rfl rfl (by (first | omega | (dsimp only; omega) | (simp; done) | (simp; omega)))) ?_ | refine rv0 rfl rfl rfl (y_index_slc Try.underlying60 Try.sizeOf62 rfl rfl (by (repeat (first|exact zH _|apply zT));done) (by (first | omega | (dsimp only; omega) | (simp; done) | (simp; omega)))) ?_
  refine rv0 rfl rfl rfl (y_fieldAddr (k := 1) Try.underlying62 rfl (n := 1) (by decide) Try.sizeOf25 rfl) ?_
  refine rv0 rfl rfl rfl ((y_load_ro ⟨Try.isAgg25, Try.sizeOf25⟩ rfl (cell_mono (Hp.le_trans hR4 hR5) hn1))) ?_
  refine rv0 rfl rfl rfl (y_move rfl) ?_
  refine rj_call (wn0 rfl) rfl Try.call26 rfl (lgAdd0_t b d va vm g i m hg ⟨h1, h2⟩ (hva.mono (Hp.le_trans hR4 hR5)) hvm (by omega)) (by (repeat (first|exact zN _|(apply zS;focus (repeat (first|exact zH _|apply zT)))))) (fun _ _ _ _ h => h.elim) ?_
  rintro r R6 L' hR6 ⟨va2, hva2, rfl⟩
  try simp only [List.cons_append, List.nil_append]
  refine rj_nil ?_
  refine hK11 _ _ _ ?_
  refine cj_env eN ?_
  refine cj_seq (fun K12 hK12 => ?_)
  refine cj_region ?_
  refine rv0 rfl rfl rfl (y_assign rfl) ?_
  refine rj_nil ?_
  refine hK12 _ _ _ ?_
  refine cj_ret ?_
  refine hret _ _ _ ?_
  apply ej_ret Try.results20 (.cons (rv_tmp rfl) .nil) _ [lgB b d va2 (g.play (.add i m))] (by exact Hp.le_trans hR4 (Hp.le_trans hR5 hR6)) rfl
  case hp => exact ⟨rfl, va2, hva2, rfl⟩
  case hS => (repeat (first|exact zR _|(apply zP;focus (repeat (first|exact zH _|apply zT)))|apply zD|exact zA _ _))
theorem replayAll_t {R : Hp} (b : Nat) (d : Option Addr) (va : Value) (g h : LG) (hh : h.ok) (hvo : va.oneCell' = true) (cx : List Value) (hx : RepN R (Rec.all h).nd cx) :
    Tri Try.prog 20 [.pointer (some ⟨b, 0, none⟩), .agg ⟨cx⟩] R [lgB b d va g] (fun x R' L' => x = .bool true ∧ ∃ va', FrX entE R' (g.play (.all h)).all va' ∧ L' = [lgB b d va' (g.play (.all h))]) := by
  have hb := hh.base
  have hv := hh.vote
  obtain ⟨q, cap, rfl, hl⟩ := RepN.kids (k := 2) (n := 0) (s := []) (l := [numN 2, numN h.term.toNat, numN (h.vote + 1).toNat, numN h.base.toNat, numN h.baseT.toNat, strN h.state, listN h.all]) hx
  obtain ⟨b0, o0, _, rfl, _⟩ := hl.at (i := 0) rfl
  obtain ⟨_, _, _, hk0, hn0, _, _⟩ := hl.kid (i := 0) rfl
  obtain ⟨_, _, _, _, hn1, _, _⟩ := hl.kid (i := 1) rfl
  obtain ⟨_, _, _, _, hn2, _, _⟩ := hl.kid (i := 2) rfl
  obtain ⟨_, _, _, _, hn3, _, _⟩ := hl.kid (i := 3) rfl
  obtain ⟨_, _, _, _, hn4, _, _⟩ := hl.kid (i := 4) rfl
  obtain ⟨_, _, _, _, _, hs5, _⟩ := hl.kid (i := 5) rfl
  obtain ⟨_, _, _, e2, _, hr2, hcell2⟩ := hl.at (i := 6) (x := listN h.all) rfl
  cases e2
  obtain ⟨q2, cap2, rfl, hl2⟩ := RepN.kids (k := 2) (n := 0) (s := []) (l := h.all.map entN) hr2
  rw [(toNat64 hh.term).2] at hn1
  rw [show (((h.vote + 1).toNat : Nat) : Int) = h.vote + 1 by omega] at hn2
  rw [show ((h.base.toNat : Nat) : Int) = h.base by omega] at hn3
  rw [(toNat64 hh.baseT).2] at hn4
  refine tri_of Try.func20 rfl Try.ntmps20 rfl (fun σ F Q hret hend hpan => ?_)
  try simp only [List.cons_append, List.nil_append]
  refine cj_env (eL 0 rfl (eL 1 rfl eN)) ?_
  unfold lgB lgC
  refine cj_seq (fun K1 hK1 => ?_)
  refine cj_region ?_
  refine rj_box (wn0 rfl) rfl rfl rfl (fun bx => ?_)
  refine rv0 rfl rfl rfl (y_assign rfl) ?_
  refine rj_nil ?_
  refine hK1 _ _ _ ?_
  refine cj_seq (fun K2 hK2 => ?_)
  refine cj_seq (fun K3 hK3 => ?_)
  refine cj_region ?_
  refine rv0 rfl rfl rfl (y_fieldAddr (k := 3) Try.underlying62 rfl (n := 1) (by decide) Try.sizeOf60 rfl) ?_
  first | refine rv0 rfl rfl rfl (y_load ⟨Try.isAgg60, Try.sizeOf60⟩ rfl (by (repeat (first|exact zH _|apply zT));done) rfl) ?_ | refine rv0 rfl rfl rfl (y_load_slc ⟨Try.isAgg60, Try.sizeOf60⟩ rfl (by (repeat (first|exact zH _|apply zT));done) rfl) ?_
  first | refine rv0 rfl rfl rfl (y_len_sl Try.underlying60 rfl) ?_ | refine rv0 rfl rfl rfl (y_len_slc Try.underlying60 rfl (by (repeat (first|exact zH _|apply zT));done)) ?_
  refine rv0 rfl rfl rfl (y_eql rfl rfl) ?_
  refine rv0 rfl rfl rfl (y_move rfl) ?_
  refine rj_val (wn1 rfl rfl rfl rfl) rfl rfl (y_fieldAddr (k := 3) Try.underlying62 rfl (n := 1) (by decide) Try.sizeOf60 rfl) ?_
  first | refine rj_val (wn1 rfl rfl rfl rfl) rfl rfl (y_load ⟨Try.isAgg60, Try.sizeOf60⟩ rfl (by (repeat (first|exact zH _|apply zT));done) rfl) ?_ | refine rj_val (wn1 rfl rfl rfl rfl) rfl rfl (y_load_slc ⟨Try.isAgg60, Try.sizeOf60⟩ rfl (by (repeat (first|exact zH _|apply zT));done) rfl) ?_
  first | refine rj_val (wn1 rfl rfl rfl rfl) rfl rfl (y_indexAddr Try.underlying60 Try.sizeOf62 rfl rfl (by (first | omega | (dsimp only; omega) | (simp; done) | (simp; omega)))) ?_ | refine rj_val (wn1 rfl rfl rfl rfl) rfl rfl (y_index_slc Try.underlying60 Try.sizeOf62 rfl rfl (by (repeat (first|exact zH _|apply zT));done) (by (first | omega | (dsimp only; omega) | (simp; done) | (simp; omega)))) ?_
  refine rj_val (wn1 rfl rfl rfl rfl) rfl rfl (y_fieldAddr (k := 0) Try.underlying62 rfl (n := 1) (by decide) Try.sizeOf3 rfl) ?_
  refine rj_val (wn1 rfl rfl rfl rfl) rfl rfl ((y_load_ro ⟨Try.isAgg3, Try.sizeOf3⟩ rfl hk0)) ?_
  refine rj_val (wn1 rfl rfl rfl rfl) rfl rfl (y_neq rfl rfl) ?_
  refine rv0 rfl rfl rfl (y_pick_f rfl rfl) ?_
  refine rj_nil ?_
  refine hK3 _ _ _ ?_
  refine cj_env (eL 0 rfl (eL 3 rfl (eL 21 rfl eN))) ?_
  refine cj_cond_f rfl ?_
  refine cj_skip ?_
  refine hK2 _ _ _ ?_
  refine cj_seq (fun K4 hK4 => ?_)
  refine cj_region ?_
  refine rv0 rfl rfl rfl (y_fieldAddr (k := 3) Try.underlying62 rfl (n := 1) (by decide) Try.sizeOf60 rfl) ?_
  first | refine rv0 rfl rfl rfl (y_load ⟨Try.isAgg60, Try.sizeOf60⟩ rfl (by (repeat (first|exact zH _|apply zT));done) rfl) ?_ | refine rv0 rfl rfl rfl (y_load_slc ⟨Try.isAgg60, Try.sizeOf60⟩ rfl (by (repeat (first|exact zH _|apply zT));done) rfl) ?_
  refine rv0 rfl rfl rfl (y_assign rfl) ?_
  refine rj_nil ?_
  refine hK4 _ _ _ ?_
  refine cj_env (eL 0 rfl (eL 5 rfl eN)) ?_
  refine cj_seq (fun K5 hK5 => ?_)
  refine cj_block ?_
  refine cj_seq (fun K6 hK6 => ?_)
  refine cj_region ?_
  refine rv0 rfl rfl rfl (y_move rfl) ?_
  first | refine rv0 rfl rfl rfl (y_indexAddr Try.underlying60 Try.sizeOf62 rfl rfl (by (first | omega | (dsimp only; omega) | (simp; done) | (simp; omega)))) ?_ | refine rv0 rfl rfl rfl (y_index_slc Try.underlying60 Try.sizeOf62 rfl rfl (by (repeat (first|exact zH _|apply zT));done) (by (first | omega | (dsimp only; omega) | (simp; done) | (simp; omega)))) ?_
  refine rv0 rfl rfl rfl (y_fieldAddr (k := 1) Try.underlying62 rfl (n := 1) (by decide) Try.sizeOf25 rfl) ?_
  refine rv0 rfl rfl rfl ((y_load_ro ⟨Try.isAgg25, Try.sizeOf25⟩ rfl hn0)) ?_
  refine rv0 rfl rfl rfl (y_eql rfl rfl) ?_
  refine rv0 rfl rfl rfl (y_move rfl) ?_
  refine rj_skip (wn2 rfl rfl rfl rfl rfl) rfl rfl ?_
  refine rj_skip (wn2 rfl rfl rfl rfl rfl) rfl rfl ?_
  refine rj_skip (wn2 rfl rfl rfl rfl rfl) rfl rfl ?_
  refine rv0 rfl rfl rfl (y_pick_f rfl rfl) ?_
  refine rv0 rfl rfl rfl (y_assign rfl) ?_
  refine rj_nil ?_
  refine hK6 _ _ _ ?_
  refine cj_env (eL 0 rfl (eL 5 rfl (eL 24 rfl eN))) ?_
  refine cj_cond_f rfl ?_
  refine cj_seq (fun K7 hK7 => ?_)
  refine cj_region ?_
  refine rv0 rfl rfl rfl (y_move rfl) ?_
  first | refine rv0 rfl rfl rfl (y_indexAddr Try.underlying60 Try.sizeOf62 rfl rfl (by (first | omega | (dsimp only; omega) | (simp; done) | (simp; omega)))) ?_ | refine rv0 rfl rfl rfl (y_index_slc Try.underlying60 Try.sizeOf62 rfl rfl (by (repeat (first|exact zH _|apply zT));done) (by (first | omega | (dsimp only; omega) | (simp; done) | (simp; omega)))) ?_
  refine rv0 rfl rfl rfl (y_fieldAddr (k := 1) Try.underlying62 rfl (n := 1) (by decide) Try.sizeOf25 rfl) ?_
  refine rv0 rfl rfl rfl ((y_load_ro ⟨Try.isAgg25, Try.sizeOf25⟩ rfl hn0)) ?_
  refine rv0 rfl rfl rfl (y_eql rfl rfl) ?_
  refine rv0 rfl rfl rfl (y_move rfl) ?_
  refine rj_skip (wn2 rfl rfl rfl rfl rfl) rfl rfl ?_
  refine rj_skip (wn2 rfl rfl rfl rfl rfl) rfl rfl ?_
  refine rj_skip (wn2 rfl rfl rfl rfl rfl) rfl rfl ?_
  refine rv0 rfl rfl rfl (y_pick_f rfl rfl) ?_
  refine rv0 rfl rfl rfl (y_assign rfl) ?_
  refine rj_nil ?_
  refine hK7 _ _ _ ?_
  refine cj_env (eL 0 rfl (eL 5 rfl (eL 51 rfl eN))) ?_
  refine cj_cond_f rfl ?_
  refine cj_seq (fun K8 hK8 => ?_)
  refine cj_region ?_
  refine rv0 rfl rfl rfl (y_move rfl) ?_
  first | refine rv0 rfl rfl rfl (y_indexAddr Try.underlying60 Try.sizeOf62 rfl rfl (by (first | omega | (dsimp only; omega) | (simp; done) | (simp; omega)))) ?_ | refine rv0 rfl rfl rfl (y_index_slc Try.underlying60 Try.sizeOf62 rfl rfl (by (repeat (first|exact zH _|apply zT));done) (by (first | omega | (dsimp only; omega) | (simp; done) | (simp; omega)))) ?_
  refine rv0 rfl rfl rfl (y_fieldAddr (k := 1) Try.underlying62 rfl (n := 1) (by decide) Try.sizeOf25 rfl) ?_
  refine rv0 rfl rfl rfl ((y_load_ro ⟨Try.isAgg25, Try.sizeOf25⟩ rfl hn0)) ?_
  refine rv0 rfl rfl rfl (y_eql rfl rfl) ?_
  refine rv0 rfl rfl rfl (y_move rfl) ?_
  refine rj_val (wn1 rfl rfl rfl rfl) rfl rfl (y_move rfl) ?_
  refine rj_buildSlice (sz := 1) (wn1 rfl rfl rfl rfl) rfl Try.underlying89 Try.sizeOf3 Try.zeroValue3 rfl rfl rfl (by decide) (by decide) (fun b106 => ?_)
  refine rj_freeze (e := 3) (sz := 1) (n := 7) (v := .slice (some ⟨b106, 0, none⟩) 7 7) (xs := intsV [0, 0, 0, 0, 0, 1, 2]) (by (repeat (first|exact zH _|apply zT));done) (fun R4 hR4 hfr hxl => ?_)
  refine rj_val (wn1 rfl rfl rfl rfl) rfl rfl (y_call Try.call33 rfl (shape_q _ _ _ (hl.mono hR4) [0, 0, 0, 0, 0, 1, 2] _ (intsFr (l := [0, 0, 0, 0, 0, 1, 2]) hfr)) (by (repeat (first|exact zN _|(apply zS;focus (repeat (first|exact zH _|apply zT))))))) ?_
  refine rj_eq 107 rfl (v' := .bool true) (by simp [numN, strN, listN, Nd.kind]) ?_
  refine rv0 rfl rfl rfl (y_pick_t rfl rfl) ?_
  refine rv0 rfl rfl rfl (y_assign rfl) ?_
  refine rj_nil ?_
  refine hK8 _ _ _ ?_
  refine cj_env (eL 0 rfl (eL 5 rfl (eL 98 rfl eN))) ?_
  refine cj_cond_t rfl ?_
  refine cj_seq (fun K9 hK9 => ?_)
  refine cj_region ?_
  refine rv0 rfl rfl rfl (y_move rfl) ?_
  first | refine rv0 rfl rfl rfl (y_indexAddr Try.underlying60 Try.sizeOf62 rfl rfl (by (first | omega | (dsimp only; omega) | (simp; done) | (simp; omega)))) ?_ | refine rv0 rfl rfl rfl (y_index_slc Try.underlying60 Try.sizeOf62 rfl rfl (by (repeat (first|exact zH _|apply zT));done) (by (first | omega | (dsimp only; omega) | (simp; done) | (simp; omega)))) ?_
  refine rv0 rfl rfl rfl ((y_loads_ro ⟨Try.isAgg62, Try.sizeOf62⟩ (vs := [.int .i64 2, .int .u64 0, .string (str []), .slice q2 (h.all.map entN).length cap2]) rfl rfl (fun j u hj => cell_mono hR4 (hcell2 j u hj)))) ?_
  refine rj_call (wn0 rfl) rfl Try.call34 rfl (entries_t h.all _ (hr2.mono hR4) (fun e he => (hh.all e he).1) hh.alln) (by (repeat (first|exact zN _|(apply zS;focus (repeat (first|exact zH _|apply zT)))))) (fun _ _ _ _ h => h.elim) ?_
  rintro r R5 L' hR5 ⟨⟨vm, rfl, hvm⟩, rfl⟩
  try simp only [List.cons_append, List.nil_append]
  refine rv0 rfl rfl rfl (y_move rfl) ?_
  refine rv0 rfl rfl rfl (y_extract rfl rfl) ?_
  refine rv0 rfl rfl rfl (y_extract rfl rfl) ?_
  refine rv0 rfl rfl rfl (y_assign rfl) ?_
  refine rv0 rfl rfl rfl (y_assign rfl) ?_
  refine rj_nil ?_
  refine hK9 _ _ _ ?_
  refine cj_env (eL 0 rfl (eL 5 rfl (eL 8 rfl (eL 9 rfl eN)))) ?_
  refine cj_seq (fun K10 hK10 => ?_)
  have hvmo := hvm.one
  have hR45 := Hp.le_trans hR4 hR5
  refine cj_mixg (L := []) [0, 1, 2, 3, 4, 5, 6, 7, 8, 9, 10, 11, 12, 13, 14, 15, 16, 17, 18, 19, 20, 21, 22, 23, 24, 25, 26, 27, 28, 29, 30] [31, 32, 33, 34, 35, 36, 37, 38, 39, 40, 41, 42, 43] [44, 45, 46] _ (by (repeat (first|exact zR _|(apply zP;focus (repeat (first|exact zH _|apply zT)))|apply zD|exact zA _ _))) (by kernel_rfl) (by kernel_rfl) (by kernel_rfl) rfl ?_
  refine fj_val rfl rfl rfl (wn0 rfl) (fun R1 hR1 G => (y_move rfl)) ?_
  refine fj_val rfl rfl rfl (wn0 rfl) (fun R1 hR1 G => (y_move rfl)) ?_
  refine fj_val rfl rfl rfl (wn0 rfl) (fun R1 hR1 G => (y_move rfl)) ?_
  refine fj_val rfl rfl rfl (wn0 rfl) (fun R1 hR1 G => (y_move rfl)) ?_
  refine fj_val rfl rfl rfl (wn0 rfl) (fun R1 hR1 G => (y_move rfl)) ?_
  refine fj_val rfl rfl rfl (wn0 rfl) (fun R1 hR1 G => (y_move rfl)) ?_
  refine fj_val rfl rfl rfl (wn0 rfl) (fun R1 hR1 G => (y_move rfl)) ?_
  first | refine fj_val rfl rfl rfl (wn0 rfl) (fun R1 hR1 G => (y_indexAddr Try.underlying60 Try.sizeOf62 rfl rfl (by (first | omega | (dsimp only; omega) | (simp; done) | (simp; omega))))) ?_ | refine fj_val rfl rfl rfl (wn0 rfl) (fun R1 hR1 G => (y_index_slc Try.underlying60 Try.sizeOf62 rfl rfl (by (repeat (first|exact zH _|apply zT));done) (by (first | omega | (dsimp only; omega) | (simp; done) | (simp; omega))))) ?_
  refine fj_val rfl rfl rfl (wn0 rfl) (fun R1 hR1 G => (y_fieldAddr (k := 1) Try.underlying62 rfl (n := 1) (by decide) Try.sizeOf25 rfl)) ?_
  refine fj_val rfl rfl rfl (wn0 rfl) (fun R1 hR1 G => (y_load_ro ⟨Try.isAgg25, Try.sizeOf25⟩ rfl (cell_mono (Hp.le_trans hR45 hR1) hn1))) ?_
  refine fj_val rfl rfl rfl (wn0 rfl) (fun R1 hR1 G => (y_move rfl)) ?_
  first | refine fj_val rfl rfl rfl (wn0 rfl) (fun R1 hR1 G => (y_indexAddr Try.underlying60 Try.sizeOf62 rfl rfl (by (first | omega | (dsimp only; omega) | (simp; done) | (simp; omega))))) ?_ | refine fj_val rfl rfl rfl (wn0 rfl) (fun R1 hR1 G => (y_index_slc Try.underlying60 Try.sizeOf62 rfl rfl (by (repeat (first|exact zH _|apply zT));done) (by (first | omega | (dsimp only; omega) | (simp; done) | (simp; omega))))) ?_
  refine fj_val rfl rfl rfl (wn0 rfl) (fun R1 hR1 G => (y_fieldAddr (k := 1) Try.underlying62 rfl (n := 1) (by decide) Try.sizeOf25 rfl)) ?_
  refine fj_val rfl rfl rfl (wn0 rfl) (fun R1 hR1 G => (y_load_ro ⟨Try.isAgg25, Try.sizeOf25⟩ rfl (cell_mono (Hp.le_trans hR45 hR1) hn2))) ?_
  refine fj_val rfl rfl rfl (wn0 rfl) (fun R1 hR1 G => (y_conv_in Try.underlying25 Try.underlying3 rfl (by (simp only [IntKind.min, IntKind.max, IntKind.signed, IntKind.bits, Bool.false_eq_true, ite_false, ite_true]; omega)))) ?_
  refine fj_val rfl rfl rfl (wn0 rfl) (fun R1 hR1 G => (Yld.to (y_sub64 rfl rfl (by omega)) (u := .int .i64 h.vote) (by rw [show h.vote + 1 - 1 = h.vote by omega]))) ?_
  refine fj_val rfl rfl rfl (wn0 rfl) (fun R1 hR1 G => (y_move rfl)) ?_
  first | refine fj_val rfl rfl rfl (wn0 rfl) (fun R1 hR1 G => (y_indexAddr Try.underlying60 Try.sizeOf62 rfl rfl (by (first | omega | (dsimp only; omega) | (simp; done) | (simp; omega))))) ?_ | refine fj_val rfl rfl rfl (wn0 rfl) (fun R1 hR1 G => (y_index_slc Try.underlying60 Try.sizeOf62 rfl rfl (by (repeat (first|exact zH _|apply zT));done) (by (first | omega | (dsimp only; omega) | (simp; done) | (simp; omega))))) ?_
  refine fj_val rfl rfl rfl (wn0 rfl) (fun R1 hR1 G => (y_fieldAddr (k := 1) Try.underlying62 rfl (n := 1) (by decide) Try.sizeOf25 rfl)) ?_
  refine fj_val rfl rfl rfl (wn0 rfl) (fun R1 hR1 G => (y_load_ro ⟨Try.isAgg25, Try.sizeOf25⟩ rfl (cell_mono (Hp.le_trans hR45 hR1) hn3))) ?_
  refine fj_val rfl rfl rfl (wn0 rfl) (fun R1 hR1 G => (y_move rfl)) ?_
  first | refine fj_val rfl rfl rfl (wn0 rfl) (fun R1 hR1 G => (y_indexAddr Try.underlying60 Try.sizeOf62 rfl rfl (by (first | omega | (dsimp only; omega) | (simp; done) | (simp; omega))))) ?_ | refine fj_val rfl rfl rfl (wn0 rfl) (fun R1 hR1 G => (y_index_slc Try.underlying60 Try.sizeOf62 rfl rfl (by (repeat (first|exact zH _|apply zT));done) (by (first | omega | (dsimp only; omega) | (simp; done) | (simp; omega))))) ?_
  refine fj_val rfl rfl rfl (wn0 rfl) (fun R1 hR1 G => (y_fieldAddr (k := 1) Try.underlying62 rfl (n := 1) (by decide) Try.sizeOf25 rfl)) ?_
  refine fj_val rfl rfl rfl (wn0 rfl) (fun R1 hR1 G => (y_load_ro ⟨Try.isAgg25, Try.sizeOf25⟩ rfl (cell_mono (Hp.le_trans hR45 hR1) hn4))) ?_
  refine fj_val rfl rfl rfl (wn0 rfl) (fun R1 hR1 G => (y_move rfl)) ?_
  first | refine fj_val rfl rfl rfl (wn0 rfl) (fun R1 hR1 G => (y_indexAddr Try.underlying60 Try.sizeOf62 rfl rfl (by (first | omega | (dsimp only; omega) | (simp; done) | (simp; omega))))) ?_ | refine fj_val rfl rfl rfl (wn0 rfl) (fun R1 hR1 G => (y_index_slc Try.underlying60 Try.sizeOf62 rfl rfl (by (repeat (first|exact zH _|apply zT));done) (by (first | omega | (dsimp only; omega) | (simp; done) | (simp; omega))))) ?_
  refine fj_val rfl rfl rfl (wn0 rfl) (fun R1 hR1 G => (y_fieldAddr (k := 2) Try.underlying62 rfl (n := 1) (by decide) Try.sizeOf9 rfl)) ?_
  refine fj_val rfl rfl rfl (wn0 rfl) (fun R1 hR1 G => (y_load_ro ⟨Try.isAgg9, Try.sizeOf9⟩ rfl (cell_mono (Hp.le_trans hR45 hR1) hs5))) ?_
  refine fj_val rfl rfl rfl (wn0 rfl) (fun R1 hR1 G => (y_move rfl)) ?_
  refine fj_val rfl rfl rfl (wn0 rfl) (fun R1 hR1 G => (y_nilCheck rfl)) ?_
  refine fj_val rfl rfl rfl (wn0 rfl) (fun R1 hR1 G => (y_fieldAddr (k := 2) Try.underlying58 rfl (n := 1) (by decide) Try.sizeOf25 rfl)) ?_
  refine fj_nil ?_
  refine xj_rj rfl ?_
  try simp only [List.cons_append, List.nil_append, List.append_nil]
  refine rj_store ⟨Try.isAgg25, Try.sizeOf25⟩ (wn0 rfl) rfl rfl (by (first | rfl | assumption | (apply cutV_one; assumption))) (by (repeat (first|exact zH _|apply zT));done) rfl rfl ?_
  refine rj_xk (by (first | exact Hp.le_refl _ | assumption | exact Hp.le_trans ‹_› ‹_›)) (by (repeat (first|exact zR _|(apply zP;focus (repeat (first|exact zH _|apply zT)))|apply zD|exact zA _ _))) ?_
  refine xj_rj rfl ?_
  try simp only [List.cons_append, List.nil_append, List.append_nil]
  refine rv0 rfl rfl rfl (y_nilCheck rfl) ?_
  refine rj_xk (by (first | exact Hp.le_refl _ | assumption | exact Hp.le_trans ‹_› ‹_›)) (by (repeat (first|exact zR _|(apply zP;focus (repeat (first|exact zH _|apply zT)))|apply zD|exact zA _ _))) ?_
  refine xj_rj rfl ?_
  try simp only [List.cons_append, List.nil_append, List.append_nil]
  refine rv0 rfl rfl rfl (y_fieldAddr (k := 3) Try.underlying58 rfl (n := 1) (by decide) Try.sizeOf3 rfl) ?_
  refine rj_xk (by (first | exact Hp.le_refl _ | assumption | exact Hp.le_trans ‹_› ‹_›)) (by (repeat (first|exact zR _|(apply zP;focus (repeat (first|exact zH _|apply zT)))|apply zD|exact zA _ _))) ?_
  refine xj_rj rfl ?_
  try simp only [List.cons_append, List.nil_append, List.append_nil]
  refine rj_store ⟨Try.isAgg3, Try.sizeOf3⟩ (wn0 rfl) rfl rfl (by (first | rfl | assumption | (apply cutV_one; assumption))) (by (repeat (first|exact zH _|apply zT));done) rfl rfl ?_
  refine rj_xk (by (first | exact Hp.le_refl _ | assumption | exact Hp.le_trans ‹_› ‹_›)) (by (repeat (first|exact zR _|(apply zP;focus (repeat (first|exact zH _|apply zT)))|apply zD|exact zA _ _))) ?_
  refine xj_rj rfl ?_
  try simp only [List.cons_append, List.nil_append, List.append_nil]
  refine rv0 rfl rfl rfl (y_nilCheck rfl) ?_
  refine rj_xk (by (first | exact Hp.le_refl _ | assumption | exact Hp.le_trans ‹_› ‹_›)) (by (repeat (first|exact zR _|(apply zP;focus (repeat (first|exact zH _|apply zT)))|apply zD|exact zA _ _))) ?_
  refine xj_rj rfl ?_
  try simp only [List.cons_append, List.nil_append, List.append_nil]
  refine rv0 rfl rfl rfl (y_fieldAddr (k := 4) Try.underlying58 rfl (n := 1) (by decide) Try.sizeOf25 rfl) ?_
  refine rj_xk (by (first | exact Hp.le_refl _ | assumption | exact Hp.le_trans ‹_› ‹_›)) (by (repeat (first|exact zR _|(apply zP;focus (repeat (first|exact zH _|apply zT)))|apply zD|exact zA _ _))) ?_
  refine xj_rj rfl ?_
  try simp only [List.cons_append, List.nil_append, List.append_nil]
  refine rj_store ⟨Try.isAgg25, Try.sizeOf25⟩ (wn0 rfl) rfl rfl (by (first | rfl | assumption | (apply cutV_one; assumption))) (by (repeat (first|exact zH _|apply zT));done) rfl rfl ?_
  refine rj_xk (by (first | exact Hp.le_refl _ | assumption | exact Hp.le_trans ‹_› ‹_›)) (by (repeat (first|exact zR _|(apply zP;focus (repeat (first|exact zH _|apply zT)))|apply zD|exact zA _ _))) ?_
  refine xj_rj rfl ?_
  try simp only [List.cons_append, List.nil_append, List.append_nil]
  refine rv0 rfl rfl rfl (y_nilCheck rfl) ?_
  refine rj_xk (by (first | exact Hp.le_refl _ | assumption | exact Hp.le_trans ‹_› ‹_›)) (by (repeat (first|exact zR _|(apply zP;focus (repeat (first|exact zH _|apply zT)))|apply zD|exact zA _ _))) ?_
  refine xj_rj rfl ?_
  try simp only [List.cons_append, List.nil_append, List.append_nil]
  refine rv0 rfl rfl rfl (y_fieldAddr (k := 5) Try.underlying58 rfl (n := 1) (by decide) Try.sizeOf25 rfl) ?_
  refine rj_xk (by (first | exact Hp.le_refl _ | assumption | exact Hp.le_trans ‹_› ‹_›)) (by (repeat (first|exact zR _|(apply zP;focus (repeat (first|exact zH _|apply zT)))|apply zD|exact zA _ _))) ?_
  refine xj_rj rfl ?_
  try simp only [List.cons_append, List.nil_append, List.append_nil]
  refine rj_store ⟨Try.isAgg25, Try.sizeOf25⟩ (wn0 rfl) rfl rfl (by (first | rfl | assumption | (apply cutV_one; assumption))) (by (repeat (first|exact zH _|apply zT));done) rfl rfl ?_
  refine rj_xk (by (first | exact Hp.le_refl _ | assumption | exact Hp.le_trans ‹_› ‹_›)) (by (repeat (first|exact zR _|(apply zP;focus (repeat (first|exact zH _|apply zT)))|apply zD|exact zA _ _))) ?_
  refine xj_rj rfl ?_
  try simp only [List.cons_append, List.nil_append, List.append_nil]
  refine rv0 rfl rfl rfl (y_nilCheck rfl) ?_
  refine rj_xk (by (first | exact Hp.le_refl _ | assumption | exact Hp.le_trans ‹_› ‹_›)) (by (repeat (first|exact zR _|(apply zP;focus (repeat (first|exact zH _|apply zT)))|apply zD|exact zA _ _))) ?_
  refine xj_rj rfl ?_
  try simp only [List.cons_append, List.nil_append, List.append_nil]
  refine rv0 rfl rfl rfl (y_fieldAddr (k := 6) Try.underlying58 rfl (n := 1) (by decide) Try.sizeOf9 rfl) ?_
  refine rj_xk (by (first | exact Hp.le_refl _ | assumption | exact Hp.le_trans ‹_› ‹_›)) (by (repeat (first|exact zR _|(apply zP;focus (repeat (first|exact zH _|apply zT)))|apply zD|exact zA _ _))) ?_
  refine xj_rj rfl ?_
  try simp only [List.cons_append, List.nil_append, List.append_nil]
  refine rj_store ⟨Try.isAgg9, Try.sizeOf9⟩ (wn0 rfl) rfl rfl (by (first | rfl | assumption | (apply cutV_one; assumption))) (by (repeat (first|exact zH _|apply zT));done) rfl rfl ?_
  refine rj_xk (by (first | exact Hp.le_refl _ | assumption | exact Hp.le_trans ‹_› ‹_›)) (by (repeat (first|exact zR _|(apply zP;focus (repeat (first|exact zH _|apply zT)))|apply zD|exact zA _ _))) ?_
  refine xj_nil ?_
  try simp only [List.cons_append, List.nil_append, List.append_nil]
  refine rv0 rfl rfl rfl (y_nilCheck rfl) ?_
  refine rv0 rfl rfl rfl (y_fieldAddr (k := 7) Try.underlying58 rfl (n := 1) (by decide) Try.sizeOf22 rfl) ?_
  refine rj_store ⟨Try.isAgg22, Try.sizeOf22⟩ (wn0 rfl) rfl rfl (by (first | rfl | assumption | (apply cutV_one; assumption))) (by (repeat (first|exact zH _|apply zT));done) rfl rfl ?_
  refine rj_nil ?_
  refine hK10 _ _ _ ?_
  refine cj_env (eL 9 rfl eN) ?_
  refine cj_seq (fun K11 hK11 => ?_)
  refine cj_region ?_
  refine rv0 rfl rfl rfl (y_move rfl) ?_
  refine rv0 rfl rfl rfl (y_assign rfl) ?_
  refine rj_nil ?_
  refine hK11 _ _ _ ?_
  refine cj_ret ?_
  refine hret _ _ _ ?_
  apply ej_ret Try.results20 (.cons (rv_tmp rfl) .nil) _ [lgB b d vm (g.play (.all h))] (by exact Hp.le_trans hR4 hR5) rfl
  case hp => exact ⟨rfl, vm, hvm, rfl⟩
  case hS => (repeat (first|exact zR _|(apply zP;focus (repeat (first|exact zH _|apply zT)))|apply zD|exact zA _ _))
theorem replay_t {R : Hp} (b : Nat) (d : Option Addr) (va : Value) (g : LG) (r : Rec) (hg : g.ok) (hm : r.may g) (hva : FrX entE R g.all va) (cx : List Value) (hx : RepN R r.nd cx) :
    Tri Try.prog 20 [.pointer (some ⟨b, 0, none⟩), .agg ⟨cx⟩] R [lgB b d va g] (fun x R' L' => x = .bool true ∧ ∃ va', FrX entE R' (g.play r).all va' ∧ L' = [lgB b d va' (g.play r)]) := by
  cases r with
  | term t v => exact Tri.mono (replayTerm_t b d va g t v hm cx hx) (fun _ _ _ hR h => ⟨h.1, va, hva.mono hR, h.2⟩) (fun _ _ _ _ h => h)
  | add i m => exact replayAdd_t b d va g i m hg hm hva cx hx
  | all h => exact replayAll_t b d va g h hm hva.one cx hx
end V
end Go.Proofs.Ytcgjlhhfldkdaaa
