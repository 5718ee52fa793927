/- Parts that the texts behind stand on: T9z, T9A, T9B, T9C, T9D, T9E, T9x, TMs. -/
import Derived.Test.YtjdbigplednihaaGreatWL9Keeps3
set_option linter.unusedSimpArgs false
set_option linter.unusedVariables false
set_option maxRecDepth 100000
namespace Go.Proofs.YtjdbigplednihaaGreat
open Go.RowKit
namespace V
set_option maxHeartbeats 4000000
def u64V (l : List Int) : List Value := l.map (Value.int .u64 ·)
theorem u64V_flat (l : List Int) : u64V l = (l.map fun n => [Value.int .u64 n]).flatten := by
  induction l with
  | nil => rfl
  | cons a l ih => simp only [u64V, List.map_cons, List.flatten_cons] at *; rw [ih]; rfl
theorem u64Fr {R : Hp} {l : List Int} {v : Value} (h : FrozenS R v l.length (u64V l)) : FrX u64E R l v := by
  rw [u64V_flat] at h
  refine FrozenS.frx h ⟨by simp, fun i x cs h1 h2 => ?_⟩
  rw [List.getElem?_map, h1] at h2
  simpa [u64E] using h2.symm
def bolV (l : List Bool) : List Value := l.map (Value.bool ·)
theorem bolV_flat (l : List Bool) : bolV l = (l.map fun n => [Value.bool n]).flatten := by
  induction l with
  | nil => rfl
  | cons a l ih => simp only [bolV, List.map_cons, List.flatten_cons] at *; rw [ih]; rfl
theorem bolFr {R : Hp} {l : List Bool} {v : Value} (h : FrozenS R v l.length (bolV l)) : FrX bolE R l v := by
  rw [bolV_flat] at h
  refine FrozenS.frx h ⟨by simp, fun i x cs h1 h2 => ?_⟩
  rw [List.getElem?_map, h1] at h2
  simpa [bolE] using h2.symm
theorem u64V_rep (n : Nat) (z : Int) : u64V (List.replicate n z) = List.replicate n (.int .u64 z) := by unfold u64V; simp
theorem rep_flat {α : Type} (n : Nat) (a : α) : (List.replicate n [a]).flatten = List.replicate n a := by
  induction n with
  | zero => rfl
  | succ n ih => rw [List.replicate_succ, List.flatten_cons, ih, List.replicate_succ]; rfl
def RP (y : ND) (r : Value) (R' : Hp) (L' : List Asn) : Prop := ∃ v' vl, r = tupOf [.agg ⟨rnC v' y⟩, vl] ∧ RNOk R' v' y ∧ FrX msgE R' y.out vl ∧ L' = []
theorem feedAll_out {x : ND} (h : x.out = []) : x.feedAll.out = (x.others.map x.feedMsg).map x.stamp := by rw [feedAll_eq]; unfold ND.sends; simp [h]
theorem askAll_out {x : ND} (h : x.out = []) : x.askAll.out = (x.others.map x.askMsg).map x.stamp := by unfold ND.askAll; rw [asks_eq]; unfold ND.sends; simp [h]
theorem RNOk.to {R : Hp} {v : RW} {x y : ND} (h : RNOk R v x) (e : y.g = x.g ∧ y.role = x.role ∧ y.votes = x.votes ∧ y.n = x.n ∧ y.peers = x.peers) : RNOk R v y := by
  obtain ⟨e1, e2, e3, e4, e5⟩ := e
  exact ⟨by rw [e1]; exact h.va, h.vv, h.vn, h.vm, fun hr => by have := h.votes (by rw [← e2]; exact hr); unfold ND.has at *; rw [e3, e4]; exact this, fun hr => by rw [e5]; exact h.next (by rw [← e2]; exact hr), fun hr => by rw [e5]; exact h.mat (by rw [← e2]; exact hr)⟩
theorem RNOk.logd {R : Hp} {v : RW} {x : ND} (h : RNOk R v x) {g : LG} {va : Value} (hva : FrX entE R g.all va) : RNOk R { v with va := va } { x with g := g } :=
  ⟨hva, h.vv, h.vn, h.vm, h.votes, h.next, h.mat⟩
theorem rnC_feedAll (v : RW) (x : ND) : rnC v x.feedAll = rnC v x := by rw [feedAll_eq]; rfl
theorem RNOk.feedAll {R : Hp} {v : RW} {x : ND} (h : RNOk R v x) : RNOk R v x.feedAll := by rw [feedAll_eq]; exact h.to ⟨rfl, rfl, rfl, rfl, rfl⟩
theorem LIn.bb {T I : Int} {A : Nat} (h : BB T I A) {T' I' : Int} {A' : Nat} (hT : T' ≤ T) (hI : I' ≤ I) (hA : A' ≤ A) : BB T' I' A' := by unfold BB at *; omega
theorem addR_eq {g : LG} {m : List Ent} (h : 0 ≤ g.base) : g.addR g.last m = (g.play (.add g.last m), 0) := by unfold LG.addR; rw [if_neg (by unfold LG.last; omega)]
theorem rwin_t {R : Hp} (v : RW) (x : ND) {T I : Int} {A : Nat} (hx : LIn T I A x) (hB : BB T (I + 1) (A + 1)) (ho : x.out = []) (hv : RNOk R v x) :
    Tri Tryz.prog 79 [.agg ⟨rnC v x⟩] R [] (RP x.winP) := by
  have hx0 := hx.nin0 (LIn.bb hB (Int.le_refl _) (by omega) (by omega)) ho
  have hg := hx0.g (by omega)
  have hva := hv.va
  have hidn := hx.idn
  have hlb := LG.last_b hg
  have hterm := hx0.term
  have hob := rnC_one hv
  have hvvo := hv.vv
  have hw1 := LIn.add hx.wins (i := x.g.last) (m := [(x.g.term, [])]) ⟨hx.commit.2, Int.le_refl _⟩ (fun _ => Eq.refl _) (fun e he => by simp at he; subst he; exact ⟨hx.term, by simp⟩)
  obtain ⟨y, hy⟩ : ∃ y, y = { x.wins with g := x.g.play (.add x.g.last [(x.g.term, [])]) } := ⟨_, rfl⟩
  have hyin : LIn T (I + 1) (A + 1) y := by rw [hy]; exact hw1.inn
  have hyn : NIn 0 y := hyin.nin0 hB (by rw [hy]; exact ho)
  have hyr : y.role = 2 := by rw [hy]; rfl
  have hyc := LIn.count hyin hyr
  have hyo : y.count.out = [] := by rw [(count_out y).1, hy]; exact ho
  have hycn : NIn 0 y.count := hyc.inn.nin0 hB hyo
  have hycr : y.count.role = 2 := by rw [(count_out y).2.2.1]; exact hyr
  have hE : x.winP = y.count.feedAll := by rw [hy]; rfl
  have hwn : x.wins.n = x.n := rfl
  rw [hE]
  refine tri_of Tryz.func79 rfl Tryz.ntmps79 rfl (fun σ F Q hret hend hpan => ?_)
  try simp only [cA, nA]
  refine cj_seq fun K1 hK1 => cj_region ?_
  refine rj_box (wn0 rfl) rfl rfl rfl (fun b1 => ?_)
  refine rj_alloc (wn0 rfl) rfl Tryz.zeroValue37 rfl (fun b2 => ?_)
  refine Ps ?_
  refine rj_nil (hK1 _ _ _ (cj_seq fun K2 hK2 => cj_region ?_))
  refine Pa (Ga Tryz.underlying37 Tryz.sizeOf3) ?_
  refine Sa o3 ?_
  refine rj_nil (hK2 _ _ _ (cj_seq fun K3 hK3 => cj_region ?_))
  refine Pa (Ga Tryz.underlying37 Tryz.sizeOf3) ?_
  first | refine Pa (La o3) ?_ | refine Pa (Ls o3) ?_
  refine Pa (Ga Tryz.underlying37 Tryz.sizeOf3) ?_
  refine Sa o3 ?_
  refine rj_nil (hK3 _ _ _ (cj_seq fun K4 hK4 => cj_region ?_))
  refine Pa (Ga Tryz.underlying37 Tryz.sizeOf3) ?_
  refine Sa o3 ?_
  refine rj_nil (hK4 _ _ _ (cj_seq fun K5 hK5 => cj_region ?_))
  refine Pa (Ga Tryz.underlying37 Tryz.sizeOf35) ?_
  refine Sa o35 ?_
  refine rj_nil (hK5 _ _ _ (cj_seq fun K6 hK6 => cj_region ?_))
  refine Pa (Ga Tryz.underlying37 Tryz.sizeOf3) ?_
  first | refine Pa (La o3) ?_ | refine Pa (Ls o3) ?_
  refine rj_makeSlice (sz := 1) (wn0 rfl) rfl Tryz.underlying35 rfl rfl rfl rfl rfl (by decide) rfl (by show 8 * _ ≤ _; omega) (by simp only [maxLen]; omega) (fun bm => ?_)
  refine Pa (Ga Tryz.underlying37 Tryz.sizeOf35) ?_
  refine Sa o35 ?_
  refine rj_nil (hK6 _ _ _ (cj_seq fun K7 hK7 => cj_seq fun K8 hK8 => cj_region ?_))
  refine rj_add (A := slc 31 1 (.slice none 0 0) 0 (u64V (List.replicate 0 (x.g.last + 1)))) (slc_nil _ _) ?_
  rw [rep_flat]
  refine Ps ?_
  refine rj_nil (hK8 _ _ _ (cj_block ?_))
  refine cj_env (E' := (fun (x1 : Nat × Value) => [(1, .pointer (some ⟨b1, 0, none⟩)), (2, .pointer (some ⟨b2, 0, none⟩)), (4, .int .i64 (x1.1 : Int))]) (0, .slice none 0 0)) (eC rfl (eC rfl (eC rfl eN))) ?_
  refine cj_sub (M := (fun (x1 : Nat × Value) => slc 31 1 x1.2 x1.1 (u64V (List.replicate x1.1 (x.g.last + 1))) :: slc 31 1 (.slice (some ⟨bm, 0, none⟩) x.n x.n) x.n (List.replicate x.n (.int .u64 0)) :: blk b1 (rnC { v with vn := x1.2, vm := .slice (some ⟨bm, 0, none⟩) x.n x.n } x.wins) 37 :: blk b2 (rnC (RW.mk (.slice none 0 0) (.slice none 0 0) (.slice none 0 0) (.slice none 0 0)) ⟨0, 0, ⟨0, 0, 0, 0, [], [], false⟩, 0, 0, 0, 0, [], [], [], false⟩) 37 :: F) (0, .slice none 0 0)) sb_ ?_
  refine cj_loop (fun (x1 : Nat × Value) => [(1, .pointer (some ⟨b1, 0, none⟩)), (2, .pointer (some ⟨b2, 0, none⟩)), (4, .int .i64 (x1.1 : Int))]) (fun (x1 : Nat × Value) => R) (fun (x1 : Nat × Value) => slc 31 1 x1.2 x1.1 (u64V (List.replicate x1.1 (x.g.last + 1))) :: slc 31 1 (.slice (some ⟨bm, 0, none⟩) x.n x.n) x.n (List.replicate x.n (.int .u64 0)) :: blk b1 (rnC { v with vn := x1.2, vm := .slice (some ⟨bm, 0, none⟩) x.n x.n } x.wins) 37 :: blk b2 (rnC (RW.mk (.slice none 0 0) (.slice none 0 0) (.slice none 0 0) (.slice none 0 0)) ⟨0, 0, ⟨0, 0, 0, 0, [], [], false⟩, 0, 0, 0, 0, [], [], [], false⟩) 37 :: F) (fun (x1 : Nat × Value) => x1.1 ≤ x.n ∧ x1.2.oneCell' = true) (fun (x1 : Nat × Value) => x.n - x1.1) (0, .slice none 0 0) (⟨by simp, rfl⟩) ?_
  rintro ⟨i, vn⟩ ⟨hi, hvn⟩
  try dsimp only
  dsimp only at hi hvn
  refine cj_seq fun K9 hK9 => cj_seq fun K10 hK10 => cj_region ?_
  refine Pm ?_
  refine Pa (Ga Tryz.underlying37 Tryz.sizeOf3) ?_
  first | refine Pa (La o3) ?_ | refine Pa (Ls o3) ?_
  refine Pa (y_lss rfl rfl) ?_
  refine rj_nil (hK10 _ _ _ ?_)
  refine cj_cond rfl (fun hc18 => ?_) (fun hc18 => ?_)
  try simp only [dT, dF, nT, nF, tF, fT] at hc18
  refine cj_skip (hK9 _ _ _ (cj_seq fun K12 hK12 => cj_block ?_))
  have hin : i < x.n := by (try simp at hc18); omega
  refine cj_mixg (L := [blk b1 (rnC { v with vn := vn, vm := .slice (some ⟨bm, 0, none⟩) x.n x.n } x.wins) 37]) [0, 1, 2, 3, 4, 5] [6] [7, 8, 9] _ sb_ (by kernel_rfl) (by kernel_rfl) (by kernel_rfl) rfl ?_
  refine Wa rfl (fun R1 hR1 G => (Ga Tryz.underlying37 Tryz.sizeOf35)) ?_
  first | refine Wa rfl (fun R1 hR1 G => (La o35)) ?_ | refine Wa rfl (fun R1 hR1 G => (Ls o35)) ?_
  refine Wa rfl (fun R1 hR1 G => (Ga Tryz.underlying37 Tryz.sizeOf34)) ?_
  refine Wa rfl (fun R1 hR1 G => (Lb (vs := rlC v.va x.g) m34)) ?_
  refine Wa rfl (fun R1 hR1 G => (Ca Tryz.call75 (rlLast_q v.va x.g hg (by first|exact hva.mono hR1|exact hva)))) ?_
  refine Wa rfl (fun R1 hR1 G => (y_addu rfl rfl (by omega))) ?_
  refine fj_nil ?_
  refine xj_rj rfl ?_
  try simp only [cA, nA, List.append_nil]
  refine rj_buildSlice (sz := 1) (wn0 rfl) rfl Tryz.underlying35 Tryz.sizeOf31 Tryz.zeroValue31 rfl rfl rfl (by decide) (by decide) (fun b27 => ?_)
  refine rj_xk le_ sb_ ?_
  refine xj_nil ?_
  try simp only [cA, nA, List.append_nil]
  refine rj_append (sz := 1) (by_ := 8) ⟨Tryz.underlying35, _, _, rfl, rfl, rfl, rfl, rfl⟩ (wn0 rfl) rfl rfl rfl fd_ (src_slc (xs := [.int .u64 (x.g.last + 1)]) Tryz.underlying35 fd_ (by simp [Value.oneCell'])) rfl om_ (by simp only [maxLen]; omega) (fun v28 ho28 hh28 => ?_)
  rw [show u64V (List.replicate i (x.g.last + 1)) ++ [.int .u64 (x.g.last + 1)] = u64V (List.replicate (i + 1) (x.g.last + 1)) by (rw [List.replicate_succ']; simp [u64V])]
  refine Pa (Ga Tryz.underlying37 Tryz.sizeOf35) ?_
  refine Sa o35 ?_
  refine rj_nil (hK12 _ _ _ ?_)
  refine cj_env (eL 1 rfl (eL 2 rfl (eL 4 rfl eN))) ?_
  refine cj_region ?_
  refine Pm ?_
  first | refine Pa (y_add64 rfl rfl om_) ?_ | refine Pa (y_add rfl rfl) ?_
  refine Ps ?_
  refine rj_nil ?_
  refine ej_on (q' := roundK _ _ _ _ _ _ _) rfl ?_
  refine ej_round ((i + 1, v28)) (⟨by dsimp only; omega, by assumption⟩) (by dsimp only; omega) (eC rfl (eC rfl (eC rfl eN))) rfl sb_
  try simp only [dT, dF, nT, nF, tF, fT] at hc18
  refine cj_exit (hK7 _ _ _ (cj_seq fun K13 hK13 => ?_))
  obtain rfl : i = x.n := by (try simp at hc18); omega
  refine cj_freeze (e := 31) (sz := 1) (n := x.n) (v := vn) (xs := u64V (List.replicate x.n (x.g.last + 1))) fd_ (fun R3 hR3 hfr3 hxl3 => ?_)
  refine cj_freeze (e := 31) (sz := 1) (n := x.n) (v := .slice (some ⟨bm, 0, none⟩) x.n x.n) (xs := List.replicate x.n (.int .u64 0)) fd_ (fun R4 hR4 hfr4 hxl4 => ?_)
  obtain ⟨w, hw⟩ : ∃ w : RW, w = { v with vn := vn, vm := .slice (some ⟨bm, 0, none⟩) x.n x.n } := ⟨_, rfl⟩
  rw [← hw]
  have hR34 := Hp.le_trans hR3 hR4
  have hwv : RNOk R4 w x.wins := by rw [hw]; exact ⟨hva.mono hR34, hvvo, hvn, rfl, fun h => absurd (show (2 : Int) = 1 from h) (by decide), fun _ => by (have := u64Fr (l := List.replicate x.n (x.g.last + 1)) (by simpa using hfr3); show FrX u64E R4 ((List.replicate x.n (x.g.last + 1, (0 : Int))).map (·.1)) vn; rw [List.map_replicate]; exact this.mono hR4), fun _ => by (have := u64Fr (l := List.replicate x.n 0) (by rw [u64V_rep]; simpa using hfr4); show FrX u64E R4 ((List.replicate x.n (x.g.last + 1, (0 : Int))).map (·.2)) _; rw [List.map_replicate]; exact this)⟩
  have hwva : FrX entE R4 x.g.all w.va := hwv.va
  have hwo := rnC_one hwv
  refine cj_mixt (L := [blk b1 (rnC w x.wins) 37]) [0, 1, 2, 3, 4, 5, 6, 7, 8] [9] [10, 11, 12, 13, 14, 15] _ sb_ (by kernel_rfl) (by kernel_rfl) ?_
  refine Wa rfl (fun R1 hR1 G => (Ga Tryz.underlying37 Tryz.sizeOf34)) ?_
  refine Wa rfl (fun R1 hR1 G => (Lb (vs := rlC w.va x.g) m34)) ?_
  refine Wa rfl (fun R1 hR1 G => (Ga Tryz.underlying37 Tryz.sizeOf34)) ?_
  refine Wa rfl (fun R1 hR1 G => (Lb (vs := rlC w.va x.g) m34)) ?_
  refine Wa rfl (fun R1 hR1 G => (Ca Tryz.call75 (rlLast_q w.va x.g hg (by first|exact hwva.mono hR1|exact hwva)))) ?_
  refine Wa rfl (fun R1 hR1 G => (Ga Tryz.underlying37 Tryz.sizeOf34)) ?_
  refine Wa rfl (fun R1 hR1 G => (Ga Tryz.underlying34 Tryz.sizeOf31)) ?_
  first | refine Wa rfl (fun R1 hR1 G => (La o31)) ?_ | refine Wa rfl (fun R1 hR1 G => (Ls o31)) ?_
  refine Wa rfl (fun R1 hR1 G => (y_build (cells := [_, _]) [(0, 1), (1, 1)] Tryz.underlying60 Tryz.zeroValue60 (fun _ => rfl) rfl rfl)) ?_
  refine fj_nil ?_
  refine xj_rj rfl ?_
  try simp only [cA, nA, List.append_nil]
  refine rj_buildSlice (sz := 2) (wn0 rfl) rfl Tryz.underlying32 Tryz.sizeOf60 Tryz.zeroValue60 rfl rfl rfl (by decide) (by decide) (fun b40 => ?_)
  refine rj_xk le_ sb_ ?_
  refine xj_nil ?_
  try simp only [cA, nA, List.append_nil]
  refine tj_all (rs := [10]) (by kernel_rfl) (by decide) ⟨⟨_, rfl, ?_⟩, trivial⟩
  refine rj_freeze (e := 60) (sz := 2) (n := 1) (v := .slice (some ⟨b40, 0, none⟩) 1 1) (xs := entsC [(x.g.term, [])]) fd_ (fun R5 hR5 hfr5 hxl5 => ?_)
  have hvm5 := entsFr (l := [(x.g.term, [])]) hfr5
  refine Ra Tryz.call85 (rlAdd_t w.va _ x.g x.g.last [(x.g.term, [])] hg (by unfold u64B; omega) (hwva.mono hR5) hvm5 (by simp)) ?_
  rintro r R6 L' hR6 ⟨⟨va6, rfl, hva6⟩, rfl⟩
  rw [addR_eq hx.base] at hva6 ⊢
  dsimp only at hva6 ⊢
  have hva6o := hva6.one
  have hR46 := Hp.le_trans hR5 hR6
  have hyv : RNOk R6 { w with va := va6 } y := by rw [hy]; exact (hwv.mono hR46).logd hva6
  have hyvo := rnC_one hyv
  try simp only [cA, nA]
  refine rj_tj ?_
  refine tj_all (rs := [11]) (by kernel_rfl) (by decide) ⟨⟨_, rfl, ?_⟩, trivial⟩
  refine Pm ?_
  refine rj_tj ?_
  refine tj_take (i := 12) rfl rfl rfl (by kernel_rfl) (by kernel_rfl) (by kernel_rfl) (wn0 rfl) rfl (fun σ => (y_extract rfl rfl)) ?_
  refine tj_take (i := 13) rfl rfl rfl (by kernel_rfl) (by kernel_rfl) (by kernel_rfl) (wn0 rfl) rfl (fun σ => (y_extract rfl rfl)) ?_
  refine tj_all (rs := [14]) (by kernel_rfl) (by decide) ⟨⟨_, rfl, ?_⟩, trivial⟩
  refine Pa (Ga Tryz.underlying37 Tryz.sizeOf34) ?_
  refine rj_tj ?_
  refine tj_all (rs := [15]) (by kernel_rfl) (by decide) ⟨⟨_, rfl, ?_⟩, trivial⟩
  refine rj_stores (vs := rlC va6 (x.g.play (.add x.g.last [(x.g.term, [])]))) m34 rfl (wn0 rfl) rfl rfl (rlC_one _ hva6o) fd_ (by exact (by decide : 8 ≤ 15)) rfl ?_
  refine rj_tj ?_
  refine tj_done (by kernel_rfl) ?_
  refine hK13 _ _ _ (cj_seq fun K14 hK14 => ?_)
  refine cj_turnA (A := blk b1 _ 37) (B := blk b1 (rnC { w with va := va6 } y) 37) fd_ (fun h hh => by rw [hy]; exact hh) ?_
  refine cj_region ?_
  refine Pa ((Lm (vs := rnC { w with va := va6 } y) m37)) ?_
  refine Ra Tryz.call86 (rcount_t { w with va := va6 } y 0 (by omega) hyn hyv hyr (hyin.pl hyr)) ?_
  rintro r R7 L' hR7 ⟨rfl, rfl⟩
  have hycv : RNOk R7 { w with va := va6 } y.count := (hyv.mono hR7).count
  have hyco := rnC_one hycv
  try simp only [cA, nA]
  refine Sm (vs := rnC { w with va := va6 } y.count) m37 hyco ?_
  refine rj_nil (hK14 _ _ _ (cj_seq fun K15 hK15 => ?_))
  refine cj_mixg (L := [blk b1 (rnC { w with va := va6 } y.count) 37]) [0, 1] [2] [3, 4] _ sb_ (by kernel_rfl) (by kernel_rfl) (by kernel_rfl) rfl ?_
  refine Wa rfl (fun R1 hR1 G => (Lm (vs := rnC { w with va := va6 } y.count) m37)) ?_
  refine Wa rfl (fun R1 hR1 G => (Lm (vs := rnC { w with va := va6 } y.count) m37)) ?_
  refine fj_nil ?_
  refine xj_rj rfl ?_
  try simp only [cA, nA, List.append_nil]
  refine Ra Tryz.call72 (rfeedAll_t { w with va := va6 } y.count 0 (by omega) hycn hycv hycr) ?_
  rintro r R8 L' hR8 ⟨hfx8, rfl⟩
  have hfo8 := hfx8.one
  try simp only [cA, nA]
  refine rj_xk le_ sb_ ?_
  refine xj_nil ?_
  try simp only [cA, nA, List.append_nil]
  refine Sm (vs := rnC { w with va := va6 } y.count) m37 hyco ?_
  refine Ps ?_
  refine rj_nil (hK15 _ _ _ ?_)
  refine cj_env (eL 2 rfl (eL 3 rfl eN)) ?_
  refine cj_ret (hret _ _ _ ?_)
  refine Ea Tryz.results79 (.cons (rv_cells m37 rfl fd_ rfl rfl) (.cons (rv_tmp rfl) .nil)) [] (by exact Hp.le_trans hR34 (Hp.le_trans hR46 (Hp.le_trans hR7 hR8))) ?_
  exact ⟨{ w with va := va6 }, _, by rw [rnC_feedAll]; rfl, (hycv.mono hR8).feedAll, by rw [feedAll_out hyo]; exact hfx8, rfl⟩
end V
end Go.Proofs.YtjdbigplednihaaGreat
set_option linter.unusedSimpArgs false
set_option linter.unusedVariables false
set_option maxRecDepth 100000
namespace Go.Proofs.YtjdbigplednihaaGreat
open Go.RowKit
namespace V
set_option maxHeartbeats 4000000
theorem has_one (n id : Nat) (h : id < n) : setNth (List.replicate n (Value.bool false)) (((id : Nat) : Int).toNat * 1 + 0) (.bool true) = bolV ((List.range n).map fun (i : Nat) => decide ((i : Int) ∈ [(id : Int)])) := by
  rw [setNth_eq, show ((id : Nat) : Int).toNat * 1 + 0 = id by simp]
  apply List.ext_getElem?
  intro i
  unfold bolV
  rw [List.getElem?_set, List.map_map, List.getElem?_map, List.getElem?_replicate, List.length_replicate]
  by_cases hi : i < n
  · rw [List.getElem?_range hi]
    by_cases h1 : id = i
    · subst h1
      simp [hi]
    · rw [if_neg h1, if_pos hi]
      have : ¬ (i : Int) = (id : Int) := by omega
      simp [this]
  · rw [if_neg (by omega), if_neg hi, List.getElem?_eq_none (by simp; omega)]
    rfl
theorem rnC_askAll (v : RW) (x : ND) : rnC v x.askAll = rnC v x := by unfold ND.askAll; rw [asks_eq]; rfl
theorem RNOk.askAll {R : Hp} {v : RW} {x : ND} (h : RNOk R v x) : RNOk R v x.askAll := by unfold ND.askAll; rw [asks_eq]; exact h.to ⟨rfl, rfl, rfl, rfl, rfl⟩
theorem setR_eq {g : LG} {t v : Int} (ht : g.term ≤ t) (hv : -1 ≤ v) : g.setR t v = ({ g with term := t, vote := v }, 0) := by unfold LG.setR; rw [if_neg (by omega)]
def rn0 : List Value := rnC (RW.mk (.slice none 0 0) (.slice none 0 0) (.slice none 0 0) (.slice none 0 0)) ⟨0, 0, ⟨0, 0, 0, 0, [], [], false⟩, 0, 0, 0, 0, [], [], [], false⟩
theorem rstand_t {R : Hp} (v : RW) (x : ND) {T I : Int} {A : Nat} (hx : LIn T I A { x with patience := 0 }) (hB : BB (T + 1) (I + 1) (A + 1)) (ho : x.out = []) (hv : RNOk R v x) :
    Tri Tryz.prog 74 [.agg ⟨rnC v x⟩] R [] (RP x.standP) := by
  have hx0 := hx.nin0 (LIn.bb hB (by omega) (by omega) (by omega)) ho
  have hg : x.g.ok := hx0.g (by omega)
  have hva := hv.va
  have hvao := hva.one
  have hidn : x.id < x.n ∧ x.n ≤ 9 := hx.idn
  have hterm : 0 ≤ x.g.term ∧ x.g.term ≤ 2305843009213693952 + ((0 : Nat) : Int) := hx0.term
  have htT : 0 ≤ x.g.term ∧ x.g.term ≤ T := hx.term
  have hob := rnC_one hv
  have hvno := hv.vn
  have hvmo := hv.vm
  have hs1 := (hx.mono (show T ≤ T + 1 by omega) (Int.le_refl _) (Nat.le_refl _)).set (t := x.g.term + 1) (v := x.id) (by omega) (by omega) (.inl (by show x.g.term < x.g.term + 1; omega))
  obtain ⟨y, hy⟩ : ∃ y, y = ND.stands { x with g := { x.g with term := x.g.term + 1, vote := x.id } } := ⟨_, rfl⟩
  have hyin : LIn (T + 1) I A y := by rw [hy]; exact hs1.inn.stands
  have hyo : y.out = [] := by rw [hy]; exact ho
  have hyn : NIn 0 y := hyin.nin0 (LIn.bb hB (Int.le_refl _) (by omega) (by omega)) hyo
  have hyg := hyn.g (by omega)
  have hyN : y.n = x.n := by rw [hy]; rfl
  have hyI : y.id = x.id := by rw [hy]; rfl
  have hyh : y.has = (List.range x.n).map fun (i : Nat) => decide ((i : Int) ∈ [(x.id : Int)]) := by rw [hy]; rfl
  have hya : y.g.all = x.g.all := by rw [hy]; rfl
  have hyr : y.role = 1 := by rw [hy]; rfl
  have hE : x.standP = if x.n = 1 then y.winP else y.askAll := by rw [hy]; rfl
  refine tri_of Tryz.func74 rfl Tryz.ntmps74 rfl (fun σ F Q hret hend hpan => ?_)
  try simp only [cA, nA]
  refine cj_seq fun K1 hK1 => cj_region ?_
  refine rj_box (wn0 rfl) rfl rfl rfl (fun b1 => ?_)
  refine rj_alloc (wn0 rfl) rfl Tryz.zeroValue37 rfl (fun b2 => ?_)
  refine Ps ?_
  refine rj_nil (hK1 _ _ _ (cj_seq fun K2 hK2 => cj_region ?_))
  refine Pa (Ga Tryz.underlying37 Tryz.sizeOf34) ?_
  refine Pa ((Lb (vs := rlC v.va x.g) m34)) ?_
  refine Pa (Ga Tryz.underlying37 Tryz.sizeOf34) ?_
  refine Pa (Ga Tryz.underlying34 Tryz.sizeOf31) ?_
  first | refine Pa (La o31) ?_ | refine Pa (Ls o31) ?_
  refine Pa ((y_addu rfl rfl (by omega))) ?_
  refine Pa (Ga Tryz.underlying37 Tryz.sizeOf3) ?_
  first | refine Pa (La o3) ?_ | refine Pa (Ls o3) ?_
  refine Pa (Ca Tryz.call76 ((rlSetTerm_q v.va x.g (x.g.term + 1) x.id hvao).eq2 (v' := tupOf [.agg ⟨rlC v.va { x.g with term := x.g.term + 1, vote := x.id }⟩, .int .i64 0]) (by rw [setR_eq (by omega) (by omega)]))) ?_
  refine Pm ?_
  refine Pa (y_extract rfl rfl) ?_
  refine Pa (y_extract rfl rfl) ?_
  refine Pa (Ga Tryz.underlying37 Tryz.sizeOf34) ?_
  refine rj_stores (vs := rlC v.va { x.g with term := x.g.term + 1, vote := x.id }) m34 rfl (wn0 rfl) rfl rfl (rlC_one _ hvao) fd_ (by exact (by decide : 8 ≤ 15)) rfl ?_
  refine rj_nil (hK2 _ _ _ (cj_seq fun K3 hK3 => cj_region ?_))
  refine Pa (Ga Tryz.underlying37 Tryz.sizeOf3) ?_
  refine Sa o3 ?_
  refine rj_nil (hK3 _ _ _ (cj_seq fun K4 hK4 => cj_region ?_))
  refine Pa (Ga Tryz.underlying37 Tryz.sizeOf3) ?_
  refine Sa o3 ?_
  refine rj_nil (hK4 _ _ _ (cj_seq fun K5 hK5 => cj_region ?_))
  refine Pa (Ga Tryz.underlying37 Tryz.sizeOf3) ?_
  refine Sa o3 ?_
  refine rj_nil (hK5 _ _ _ (cj_seq fun K6 hK6 => cj_region ?_))
  refine Pa (Ga Tryz.underlying37 Tryz.sizeOf3) ?_
  first | refine Pa (La o3) ?_ | refine Pa (Ls o3) ?_
  refine rj_makeSlice (sz := 1) (wn0 rfl) rfl Tryz.underlying23 rfl rfl rfl rfl rfl (by decide) rfl (by show 1 * _ ≤ _; omega) (by simp only [maxLen]; omega) (fun bv => ?_)
  refine Pa (Ga Tryz.underlying37 Tryz.sizeOf23) ?_
  refine Sa o23 ?_
  refine rj_nil (hK6 _ _ _ ?_)
  refine cj_env (eL 1 rfl (eL 2 rfl eN)) ?_
  refine cj_seq fun K7 hK7 => cj_region ?_
  rw [rep_flat]
  refine Pa (Ga Tryz.underlying37 Tryz.sizeOf23) ?_
  first | refine Pa (La o23) ?_ | refine Pa (Ls o23) ?_
  refine Pa (Ga Tryz.underlying37 Tryz.sizeOf3) ?_
  first | refine Pa (La o3) ?_ | refine Pa (Ls o3) ?_
  refine Pa ((y_index_slc Tryz.underlying23 Tryz.sizeOf4 rfl rfl fd_ (by omega))) ?_
  refine rj_store_slc (ys := bolV y.has) o4 (wn0 rfl) rfl rfl rfl fd_ (by simp; omega) (by rw [hyh]; exact has_one x.n x.id hidn.1) (by omega) ?_
  refine rj_nil (hK7 _ _ _ (cj_seq fun K8 hK8 => cj_seq fun K9 hK9 => ?_))
  refine cj_freeze (e := 4) (sz := 1) (n := x.n) (v := .slice (some ⟨bv, 0, none⟩) x.n x.n) (xs := bolV y.has) fd_ (fun R4 hR4 hfr4 hxl4 => ?_)
  obtain ⟨w, hw⟩ : ∃ w : RW, w = { v with vv := .slice (some ⟨bv, 0, none⟩) x.n x.n } := ⟨_, rfl⟩
  have hwv : RNOk R4 w y := by rw [hw]; exact ⟨by rw [hya]; exact hva.mono hR4, rfl, hvno, hvmo, fun _ => bolFr (l := y.has) (by rw [show y.has.length = x.n by rw [hyh]; simp]; exact hfr4), fun h => by rw [hyr] at h; exact absurd h (by decide), fun h => by rw [hyr] at h; exact absurd h (by decide)⟩
  refine cj_turnA (A := blk b1 _ 37) (B := blk b1 (rnC w y) 37) fd_ (fun h hh => by rw [hw, hy]; exact hh) ?_
  have hwo := rnC_one hwv
  have hwva := hwv.va
  refine cj_region ?_
  refine Pa (Ga Tryz.underlying37 Tryz.sizeOf3) ?_
  refine Pa ((Yld.to (u := .int .i64 (x.n : Int)) (La o3) (by rw [hyN]))) ?_
  refine Pa (y_eql rfl rfl) ?_
  refine rj_nil (hK9 _ _ _ ?_)
  refine cj_cond rfl (fun hc34 => ?_) (fun hc34 => ?_)
  have f1 : x.n = 1 := by (try simp at hc34); omega
  rw [if_pos f1] at hE
  refine cj_seq fun K11 hK11 => cj_region ?_
  refine Pa ((Lm (vs := rnC w y) m37)) ?_
  refine Ra Tryz.call79 (rwin_t w y hyin hB hyo hwv) ?_
  rintro r R5 L' hR5 ⟨w5, vl5, rfl, hw5, hfx5, rfl⟩
  have hw5o := rnC_one hw5
  have hfo5 := hfx5.one
  try simp only [cA, nA]
  refine Pa (y_extract rfl rfl) ?_
  refine Pa (y_extract rfl rfl) ?_
  refine Sm (vs := rnC w5 y.winP) m37 hw5o ?_
  refine Ps ?_
  refine rj_nil (hK11 _ _ _ (cj_ret (hret _ _ _ ?_)))
  refine Ea Tryz.results74 (.cons (rv_cells m37 rfl fd_ rfl rfl) (.cons (rv_tmp rfl) .nil)) [] (by exact Hp.le_trans hR4 hR5) ?_
  rw [hE]; exact ⟨w5, vl5, rfl, hw5, hfx5, rfl⟩
  have f1 : ¬ x.n = 1 := by (try simp at hc34); omega
  rw [if_neg f1] at hE
  refine cj_skip (hK8 _ _ _ (cj_seq fun K12 hK12 => cj_region ?_))
  refine Ps ?_
  refine rj_add (A := slc 48 10 (.slice none 0 0) 0 ([] : List (List Value)).flatten) (slc_nil _ _) ?_
  refine rj_nil (hK12 _ _ _ (cj_seq fun K13 hK13 => cj_seq fun K14 hK14 => cj_region ?_))
  refine Ps ?_
  refine rj_nil (hK14 _ _ _ (cj_block ?_))
  refine cj_env (E' := (fun (x1 : Nat × Value × List (List Value)) => [(1, .pointer (some ⟨b1, 0, none⟩)), (2, .pointer (some ⟨b2, 0, none⟩)), (4, x1.2.1), (5, .int .i64 (x1.1 : Int))]) (0, .slice none 0 0, [])) (eC rfl (eC rfl (eC rfl (eC rfl eN)))) ?_
  refine cj_sub (M := (fun (x1 : Nat × Value × List (List Value)) => slc 48 10 x1.2.1 x1.2.2.length x1.2.2.flatten :: blk b1 (rnC w y) 37 :: blk b2 rn0 37 :: F) (0, .slice none 0 0, [])) sb_ ?_
  refine cj_loop (fun (x1 : Nat × Value × List (List Value)) => [(1, .pointer (some ⟨b1, 0, none⟩)), (2, .pointer (some ⟨b2, 0, none⟩)), (4, x1.2.1), (5, .int .i64 (x1.1 : Int))]) (fun (x1 : Nat × Value × List (List Value)) => R4) (fun (x1 : Nat × Value × List (List Value)) => slc 48 10 x1.2.1 x1.2.2.length x1.2.2.flatten :: blk b1 (rnC w y) 37 :: blk b2 rn0 37 :: F) (fun (x1 : Nat × Value × List (List Value)) => x1.1 ≤ x.n ∧ x1.2.1.oneCell' = true ∧ Els msgE R4 (((othersL y.id x1.1).map y.askMsg).map y.stamp) x1.2.2) (fun (x1 : Nat × Value × List (List Value)) => x.n - x1.1) (0, .slice none 0 0, []) (⟨by simp, rfl, Els.nil⟩) ?_
  rintro ⟨i, vl, css⟩ ⟨hi, hvl, hk3⟩
  try dsimp only
  dsimp only at hi hvl hk3
  have hcl := hk3.1
  have hol := othersL_le y.id i
  simp only [List.length_map] at hcl
  refine cj_seq fun K15 hK15 => cj_seq fun K16 hK16 => cj_region ?_
  refine Pm ?_
  refine Pa (Ga Tryz.underlying37 Tryz.sizeOf3) ?_
  refine Pa ((Yld.to (u := .int .i64 (x.n : Int)) (La o3) (by rw [hyN]))) ?_
  refine Pa (y_lss rfl rfl) ?_
  refine rj_nil (hK16 _ _ _ ?_)
  refine cj_env (eL 1 rfl (eL 2 rfl (eL 4 rfl (eL 5 rfl (eL 42 rfl eN))))) ?_
  refine cj_cond rfl (fun hc42 => ?_) (fun hc42 => ?_)
  try simp only [dT, dF, nT, nF, tF, fT] at hc42
  refine cj_skip (hK15 _ _ _ (cj_seq fun K18 hK18 => cj_block (cj_seq fun K19 hK19 => ?_)))
  have hin : i < x.n := by (try simp at hc42); omega
  refine cj_region ?_
  refine Pm ?_
  refine Pa (Ga Tryz.underlying37 Tryz.sizeOf3) ?_
  first | refine Pa (La o3) ?_ | refine Pa (Ls o3) ?_
  refine Pa (y_neq rfl rfl) ?_
  refine rj_nil (hK19 _ _ _ ?_)
  refine cj_cond rfl (fun hc48 => ?_) (fun hc48 => ?_)
  have fne : ¬ i = y.id := by intro h; (try simp at hc48); omega
  refine cj_seq fun K21 hK21 => cj_region ?_
  refine Pa ((Lm (vs := rnC w y) m37)) ?_
  refine Pm ?_
  refine Pa (Ca Tryz.call78 (rmsg_q w y 0 i)) ?_
  refine rj_alloc (wn0 rfl) rfl Tryz.zeroValue48 rfl (fun b6 => ?_)
  refine Sm (vs := msgC { Msg.zero with kind := 0, frm := y.id, to := i, term := y.g.term } (.slice none 0 0)) m48 (msgC_one rfl) ?_
  refine rj_nil (hK21 _ _ _ (cj_seq fun K22 hK22 => cj_region ?_))
  refine Pa (Ga Tryz.underlying37 Tryz.sizeOf34) ?_
  refine Pa ((Lb (vs := rlC w.va y.g) m34)) ?_
  refine Pa (Ca Tryz.call75 (rlLast_q w.va y.g hyg hwva)) ?_
  refine Pa (Ga Tryz.underlying48 Tryz.sizeOf31) ?_
  refine Sa o31 ?_
  refine rj_nil (hK22 _ _ _ (cj_seq fun K23 hK23 => cj_region ?_))
  refine Pa ((Lm (vs := rnC w y) m37)) ?_
  refine Pa (Ca Tryz.call77 (rlastTerm_q w y hyg hwva)) ?_
  refine Pa (Ga Tryz.underlying48 Tryz.sizeOf31) ?_
  refine Sa o31 ?_
  refine rj_nil (hK23 _ _ _ (cj_region ?_))
  refine Pm ?_
  refine Pa ((Lm (vs := msgC (y.stamp (y.askMsg i)) (.slice none 0 0)) m48)) ?_
  refine rj_buildSlice (sz := 10) (wn0 rfl) rfl Tryz.underlying28 Tryz.sizeOf48 Tryz.zeroValue48 rfl rfl rfl (by decide) (by decide) (fun b61 => ?_)
  refine rj_append (sz := 10) (by_ := 104) ⟨Tryz.underlying28, _, _, rfl, rfl, rfl, rfl, rfl⟩ (wn0 rfl) rfl rfl rfl fd_ (src_slc (xs := msgC (y.stamp (y.askMsg i)) (.slice none 0 0)) Tryz.underlying28 fd_ (msgC_one rfl)) rfl om_ (by simp only [maxLen]; omega) (fun v62 ho62 hh62 => ?_)
  rw [flat1, show css.length + 1 = (css ++ [msgC (y.stamp (y.askMsg i)) (.slice none 0 0)]).length by simp]
  refine Ps ?_
  refine rj_nil (hK18 _ _ _ (cj_region ?_))
  refine Pm ?_
  first | refine Pa (y_add64 rfl rfl om_) ?_ | refine Pa (y_add rfl rfl) ?_
  refine Ps ?_
  refine rj_nil ?_
  refine ej_on (q' := roundK _ _ _ _ _ _ _) rfl ?_
  refine ej_round ((i + 1, v62, css ++ [msgC (y.stamp (y.askMsg i)) (.slice none 0 0)])) (⟨by dsimp only; omega, by assumption, by dsimp only; rw [othersL_succ, if_neg fne, map_snoc2, map_snoc2]; exact hk3.snoc ⟨.slice none 0 0, rfl, FrX.nil⟩⟩) (by dsimp only; omega) (eC rfl (eC rfl (eC rfl (eC rfl eN)))) rfl sb_
  have feq : i = y.id := by (try simp at hc48); omega
  refine cj_skip (hK18 _ _ _ (cj_region ?_))
  refine Pm ?_
  first | refine Pa (y_add64 rfl rfl om_) ?_ | refine Pa (y_add rfl rfl) ?_
  refine Ps ?_
  refine rj_nil ?_
  refine ej_on (q' := roundK _ _ _ _ _ _ _) rfl ?_
  refine ej_round ((i + 1, vl, css)) (⟨by dsimp only; omega, hvl, by dsimp only; rw [othersL_succ, if_pos feq]; exact hk3⟩) (by dsimp only; omega) (eC rfl (eC rfl (eC rfl (eC rfl eN)))) rfl sb_
  try simp only [dT, dF, nT, nF, tF, fT] at hc42
  refine cj_exit (hK13 _ _ _ (cj_seq fun K24 hK24 => ?_))
  obtain hin : i = y.n := by (try simp at hc42); omega
  refine cj_freeze (e := 48) (sz := 10) (n := css.length) (v := vl) (xs := css.flatten) fd_ (fun R5 hR5 hfr hxl => ?_)
  rw [hk3.1] at hfr
  rw [hin] at hfr hk3
  have hfx : FrX msgE R5 (((othersL y.id y.n).map y.askMsg).map y.stamp) vl := FrozenS.frx hfr (hk3.mono hR5)
  have hfo := hfx.one
  refine cj_region ?_
  refine Pa ((Lm (vs := rnC w y) m37)) ?_
  refine Pm ?_
  refine Sm (vs := rnC w y) m37 hwo ?_
  refine Ps ?_
  refine rj_nil (hK24 _ _ _ ?_)
  refine cj_env (eL 2 rfl (eL 3 rfl eN)) ?_
  refine cj_ret (hret _ _ _ ?_)
  refine Ea Tryz.results74 (.cons (rv_cells m37 rfl fd_ rfl rfl) (.cons (rv_tmp rfl) .nil)) [] (by exact Hp.le_trans hR4 hR5) ?_
  rw [hE]; exact ⟨w, vl, by rw [rnC_askAll]; rfl, (hwv.mono hR5).askAll, by rw [askAll_out hyo]; exact hfx, rfl⟩
theorem rtick_t {R : Hp} (v : RW) (x : ND) {T I : Int} {A : Nat} (hx : LIn T I A x) (hB : BB (T + 1) (I + 1) (A + 1)) (ho : x.out = []) (hv : RNOk R v x) :
    Tri Tryz.prog 45 [.agg ⟨rnC v x⟩] R [] (RP x.tickP) := by
  have hB0 : BB T I A := LIn.bb hB (by omega) (by omega) (by omega)
  have hpt := hx.patience
  have hlm := limit_b x.id x.g.term
  have hob := rnC_one hv
  have h1 := hx.pat (p := 0) (by omega)
  obtain ⟨y, hy⟩ : ∃ y, y = { x with patience := x.patience + 1 } := ⟨_, rfl⟩
  obtain ⟨z, hz⟩ : ∃ z, z = { x with patience := 0 } := ⟨_, rfl⟩
  have hx0 := hx.nin0 hB0 ho
  have hzi : LIn T I A z := by rw [hz]; exact h1.inn
  have hzo : z.out = [] := by rw [hz]; exact ho
  have hyv : RNOk R v y := by rw [hy]; exact hv.to ⟨rfl, rfl, rfl, rfl, rfl⟩
  have hzv : RNOk R v z := by rw [hz]; exact hv.to ⟨rfl, rfl, rfl, rfl, rfl⟩
  have hyo := rnC_one hyv
  have hzn := rnC_one hzv
  refine tri_of Tryz.func45 rfl Tryz.ntmps45 rfl (fun σ F Q hret hend hpan => ?_)
  try simp only [cA, nA]
  refine cj_seq fun K1 hK1 => cj_region ?_
  refine rj_box (wn0 rfl) rfl rfl rfl (fun b1 => ?_)
  refine rj_alloc (wn0 rfl) rfl Tryz.zeroValue37 rfl (fun b2 => ?_)
  refine Ps ?_
  refine rj_nil (hK1 _ _ _ (cj_seq fun K2 hK2 => cj_region ?_))
  refine Pa (Ga Tryz.underlying37 Tryz.sizeOf3) ?_
  first | refine Pa (La o3) ?_ | refine Pa (Ls o3) ?_
  refine Pa ((y_add64 rfl rfl (by omega))) ?_
  refine Pa (Ga Tryz.underlying37 Tryz.sizeOf3) ?_
  refine Sa o3 ?_
  refine rj_nil (hK2 _ _ _ (cj_seq fun K3 hK3 => cj_seq fun K4 hK4 => cj_region ?_))
  refine Pa (Ga Tryz.underlying37 Tryz.sizeOf3) ?_
  first | refine Pa (La o3) ?_ | refine Pa (Ls o3) ?_
  refine Pa (y_eql rfl rfl) ?_
  refine rj_nil (hK4 _ _ _ ?_)
  refine cj_cond rfl (fun hc10 => ?_) (fun hc10 => ?_)
  have f1 : x.role = 2 := by simpa using hc10
  refine cj_seq fun K6 hK6 => cj_seq fun K7 hK7 => cj_region ?_
  refine Pa (Ga Tryz.underlying37 Tryz.sizeOf3) ?_
  first | refine Pa (La o3) ?_ | refine Pa (Ls o3) ?_
  refine Pa (y_lss rfl rfl) ?_
  refine rj_nil (hK7 _ _ _ ?_)
  refine cj_cond rfl (fun hc13 => ?_) (fun hc13 => ?_)
  have f2 : ¬ x.patience + 1 ≥ 3 := by (try simp at hc13); omega
  have hE : x.tickP = y := by unfold ND.tickP; rw [if_pos f1, if_neg f2, hy]
  refine cj_seq fun K9 hK9 => cj_region ?_
  refine Pa ((y_loads_all (vs := rnC v y) m37 rfl rfl (by rw [hy]; ((repeat (first|exact zH _|apply zT));done)))) ?_
  refine Sm (vs := rnC v y) m37 hyo ?_
  refine Ps ?_
  refine rj_nil (hK9 _ _ _ (cj_ret (hret _ _ _ ?_)))
  refine Ea Tryz.results45 (.cons (rv_cells m37 rfl fd_ rfl rfl) (.cons (rv_tmp rfl) .nil)) [] (by first | exact Hp.le_refl _ | exact hR8) ?_
  rw [hE]; exact ⟨v, _, rfl, hyv, by rw [show y.out = [] by rw [hy]; exact ho]; exact FrX.nil, rfl⟩
  have f2 : x.patience + 1 ≥ 3 := by (try simp at hc13); omega
  have hE : x.tickP = z.feedAll := by unfold ND.tickP; rw [if_pos f1, if_pos f2, hz]
  have hzr : z.role = 2 := by rw [hz]; exact f1
  refine cj_skip (hK6 _ _ _ (cj_seq fun K10 hK10 => cj_region ?_))
  refine Pa (Ga Tryz.underlying37 Tryz.sizeOf3) ?_
  refine Sa o3 ?_
  refine rj_nil (hK10 _ _ _ (cj_seq fun K11 hK11 => ?_))
  refine cj_turnA (A := blk b1 _ 37) (B := blk b1 (rnC v z) 37) fd_ (fun h hh => by rw [hz]; exact hh) ?_
  refine cj_mixg (L := [blk b1 (rnC v z) 37]) [0, 1] [2] [3, 4] _ sb_ (by kernel_rfl) (by kernel_rfl) (by kernel_rfl) rfl ?_
  refine Wa rfl (fun R1 hR1 G => (Lm (vs := rnC v z) m37)) ?_
  refine Wa rfl (fun R1 hR1 G => (Lm (vs := rnC v z) m37)) ?_
  refine fj_nil ?_
  refine xj_rj rfl ?_
  try simp only [cA, nA, List.append_nil]
  refine Ra Tryz.call72 (rfeedAll_t v z 0 (by omega) (hzi.nin0 hB0 hzo) hzv hzr) ?_
  rintro r R8 L' hR8 ⟨hfx8, rfl⟩
  have hfo8 := hfx8.one
  try simp only [cA, nA]
  refine rj_xk le_ sb_ ?_
  refine xj_nil ?_
  try simp only [cA, nA, List.append_nil]
  refine Sm (vs := rnC v z) m37 hzn ?_
  refine Ps ?_
  refine rj_nil (hK11 _ _ _ (cj_ret (hret _ _ _ ?_)))
  refine Ea Tryz.results45 (.cons (rv_cells m37 rfl fd_ rfl rfl) (.cons (rv_tmp rfl) .nil)) [] (by first | exact Hp.le_refl _ | exact hR8) ?_
  rw [hE]; exact ⟨v, _, by rw [rnC_feedAll]; rfl, (hzv.mono hR8).feedAll, by rw [feedAll_out hzo]; exact hfx8, rfl⟩
  have f1 : ¬ x.role = 2 := by simpa using hc10
  refine cj_skip (hK3 _ _ _ (cj_seq fun K12 hK12 => cj_seq fun K13 hK13 => ?_))
  refine cj_draw (by kernel_rfl) (by kernel_rfl) ?_
  refine Qa (Ga Tryz.underlying37 Tryz.sizeOf3) ?_
  first | refine Qa (La o3) ?_ | refine Qa (Ls o3) ?_
  refine Qa (Ga Tryz.underlying37 Tryz.sizeOf3) ?_
  first | refine Qa (La o3) ?_ | refine Qa (Ls o3) ?_
  refine Qa (Ga Tryz.underlying37 Tryz.sizeOf34) ?_
  refine Qa (Ga Tryz.underlying34 Tryz.sizeOf31) ?_
  first | refine Qa (La o31) ?_ | refine Qa (Ls o31) ?_
  refine Qa (Ca Tryz.call73 (rLimit_q x 0 (by omega) hx0)) ?_
  refine Qa (y_lss rfl rfl) ?_
  refine qj_nil ?_
  refine hK13 _ _ _ ?_
  refine cj_env (eL 1 rfl (eL 2 rfl (eL 27 rfl eN))) ?_
  refine cj_cond rfl (fun hc27 => ?_) (fun hc27 => ?_)
  have f2 : ¬ x.patience + 1 ≥ limitI x.id x.g.term := by (try simp at hc27); omega
  have hE : x.tickP = y := by unfold ND.tickP; rw [if_neg f1, if_neg f2, hy]
  refine cj_seq fun K15 hK15 => cj_region ?_
  refine Pa ((y_loads_all (vs := rnC v y) m37 rfl rfl (by rw [hy]; ((repeat (first|exact zH _|apply zT));done)))) ?_
  refine Sm (vs := rnC v y) m37 hyo ?_
  refine Ps ?_
  refine rj_nil (hK15 _ _ _ (cj_ret (hret _ _ _ ?_)))
  refine Ea Tryz.results45 (.cons (rv_cells m37 rfl fd_ rfl rfl) (.cons (rv_tmp rfl) .nil)) [] (by first | exact Hp.le_refl _ | exact hR8) ?_
  rw [hE]; exact ⟨v, _, rfl, hyv, by rw [show y.out = [] by rw [hy]; exact ho]; exact FrX.nil, rfl⟩
  have f2 : x.patience + 1 ≥ limitI x.id x.g.term := by (try simp at hc27); omega
  have hE : x.tickP = y.standP := by unfold ND.tickP; rw [if_neg f1, if_pos f2, hy]
  refine cj_skip (hK12 _ _ _ (cj_seq fun K16 hK16 => cj_region ?_))
  refine Pa ((y_loads_all (vs := rnC v y) m37 rfl rfl (by rw [hy]; ((repeat (first|exact zH _|apply zT));done)))) ?_
  refine Ra Tryz.call74 (rstand_t v y (by rw [hy]; exact h1.inn) hB (by rw [hy]; exact ho) hyv) ?_
  rintro r R8 L' hR8 ⟨w5, vl5, rfl, hw5, hfx5, rfl⟩
  have hw5o := rnC_one hw5
  have hfo5 := hfx5.one
  try simp only [cA, nA]
  refine Pa (y_extract rfl rfl) ?_
  refine Pa (y_extract rfl rfl) ?_
  refine Sm (vs := rnC w5 y.standP) m37 hw5o ?_
  refine Ps ?_
  refine rj_nil (hK16 _ _ _ (cj_ret (hret _ _ _ ?_)))
  refine Ea Tryz.results45 (.cons (rv_cells m37 rfl fd_ rfl rfl) (.cons (rv_tmp rfl) .nil)) [] (by first | exact Hp.le_refl _ | exact hR8) ?_
  rw [hE]; exact ⟨w5, vl5, rfl, hw5, hfx5, rfl⟩
end V
end Go.Proofs.YtjdbigplednihaaGreat
set_option linter.unusedSimpArgs false
set_option linter.unusedVariables false
set_option maxRecDepth 100000
namespace Go.Proofs.YtjdbigplednihaaGreat
open Go.RowKit
namespace V
set_option maxHeartbeats 4000000
theorem rpropose_t {R : Hp} (v : RW) (x : ND) (cmd : Bs) {T I : Int} {A : Nat} (hx : LIn T I A x) (hB : BB T (I + 1) (A + 1)) (ho : x.out = []) (hv : RNOk R v x) (hcmd : cmd.length ≤ 100) :
    Tri Tryz.prog 48 [.agg ⟨rnC v x⟩, .string (str cmd)] R []
      (fun r R' L' => ∃ v' vl, r = tupOf [.agg ⟨rnC v' (x.proposeP cmd).2⟩, .int .u64 (x.proposeP cmd).1.1, .int .u64 (x.proposeP cmd).1.2.1, vl] ∧ RNOk R' v' (x.proposeP cmd).2 ∧ FrX msgE R' (x.proposeP cmd).1.2.2 vl ∧ L' = []) := by
  have hx0 := hx.nin0 (LIn.bb hB (Int.le_refl _) (by omega) (by omega)) ho
  have hg := hx0.g (by omega)
  have hva := hv.va
  have hidn := hx.idn
  have hlb := LG.last_b hg
  have hterm := hx0.term
  have hob := rnC_one hv
  refine tri_of Tryz.func48 rfl Tryz.ntmps48 rfl (fun σ F Q hret hend hpan => ?_)
  try simp only [cA, nA]
  refine cj_seq fun K1 hK1 => cj_region ?_
  refine rj_box (wn0 rfl) rfl rfl rfl (fun b1 => ?_)
  refine rj_alloc (wn0 rfl) rfl Tryz.zeroValue37 rfl (fun b2 => ?_)
  refine Ps ?_
  refine Ps ?_
  refine Ps ?_
  refine rj_nil (hK1 _ _ _ (cj_seq fun K2 hK2 => cj_seq fun K3 hK3 => cj_region ?_))
  refine Pa (Ga Tryz.underlying37 Tryz.sizeOf3) ?_
  first | refine Pa (La o3) ?_ | refine Pa (Ls o3) ?_
  refine Pa (y_neq rfl rfl) ?_
  refine rj_nil (hK3 _ _ _ ?_)
  refine cj_cond rfl (fun hc10 => ?_) (fun hc10 => ?_)
  have f1 : ¬ x.role = 2 := by simpa using hc10
  have hP : x.proposeP cmd = ((0, 0, []), x) := by unfold ND.proposeP; rw [if_pos f1]
  refine cj_seq fun K5 hK5 => cj_region ?_
  refine Pa ((Lm (vs := rnC v x) m37)) ?_
  refine Sm (vs := rnC v x) m37 hob ?_
  refine Ps ?_
  refine Ps ?_
  refine Ps ?_
  refine rj_nil (hK5 _ _ _ (cj_ret (hret _ _ _ ?_)))
  refine Ea Tryz.results48 (.cons (rv_cells m37 rfl fd_ rfl rfl) (.cons (rv_tmp rfl) (.cons (rv_tmp rfl) (.cons (rv_tmp rfl) .nil)))) [] (by first | exact Hp.le_refl _ | exact Hp.le_trans hR46 (Hp.le_trans hR7 hR8)) ?_
  rw [hP]; exact ⟨v, _, rfl, hv, FrX.nil, rfl⟩
  have f1 : x.role = 2 := by simpa using hc10
  have hw1 := LIn.add hx (i := x.g.last) (m := [(x.g.term, cmd)]) ⟨hx.commit.2, Int.le_refl _⟩ (fun _ => Eq.refl _) (fun e he => by simp at he; subst he; exact ⟨hx.term, hcmd⟩)
  obtain ⟨y, hy⟩ : ∃ y, y = { x with g := x.g.play (.add x.g.last [(x.g.term, cmd)]) } := ⟨_, rfl⟩
  have hyin : LIn T (I + 1) (A + 1) y := by rw [hy]; exact hw1.inn
  have hyn : NIn 0 y := hyin.nin0 hB (by rw [hy]; exact ho)
  have hyr : y.role = 2 := by rw [hy]; exact f1
  have hyc := LIn.count hyin hyr
  have hyo : y.count.out = [] := by rw [(count_out y).1, hy]; exact ho
  have hycn : NIn 0 y.count := hyc.inn.nin0 hB hyo
  have hycg := hycn.g (by omega)
  have hycr : y.count.role = 2 := by rw [(count_out y).2.2.1]; exact hyr
  have hE : x.entryP cmd = y.count.feedAll := by rw [hy]; rfl
  have hP : x.proposeP cmd = ((y.count.g.last, y.count.g.term, y.count.feedAll.out), y.count.feedAll) := by unfold ND.proposeP; rw [if_neg (by simp [f1]), hE, feedAll_g]
  refine cj_skip (hK2 _ _ _ (cj_seq fun K6 hK6 => ?_))
  refine cj_mixt (L := [blk b1 (rnC v x) 37]) [0, 1, 2, 3, 4, 5, 6, 7, 8, 9] [10] [11, 12, 13, 14, 15, 16] _ sb_ (by kernel_rfl) (by kernel_rfl) ?_
  refine Wa rfl (fun R1 hR1 G => (Ga Tryz.underlying37 Tryz.sizeOf34)) ?_
  refine Wa rfl (fun R1 hR1 G => (Lb (vs := rlC v.va x.g) m34)) ?_
  refine Wa rfl (fun R1 hR1 G => (Ga Tryz.underlying37 Tryz.sizeOf34)) ?_
  refine Wa rfl (fun R1 hR1 G => (Lb (vs := rlC v.va x.g) m34)) ?_
  refine Wa rfl (fun R1 hR1 G => (Ca Tryz.call75 (rlLast_q v.va x.g hg (by first|exact hva.mono hR1|exact hva)))) ?_
  refine Wa rfl (fun R1 hR1 G => (Ga Tryz.underlying37 Tryz.sizeOf34)) ?_
  refine Wa rfl (fun R1 hR1 G => (Ga Tryz.underlying34 Tryz.sizeOf31)) ?_
  first | refine Wa rfl (fun R1 hR1 G => (La o31)) ?_ | refine Wa rfl (fun R1 hR1 G => (Ls o31)) ?_
  refine Wa rfl (fun R1 hR1 G => (y_move rfl)) ?_
  refine Wa rfl (fun R1 hR1 G => (y_build (cells := [_, _]) [(0, 1), (1, 1)] Tryz.underlying60 Tryz.zeroValue60 (fun _ => rfl) rfl rfl)) ?_
  refine fj_nil ?_
  refine xj_rj rfl ?_
  try simp only [cA, nA, List.append_nil]
  refine rj_buildSlice (sz := 2) (wn0 rfl) rfl Tryz.underlying32 Tryz.sizeOf60 Tryz.zeroValue60 rfl rfl rfl (by decide) (by decide) (fun b40 => ?_)
  refine rj_xk le_ sb_ ?_
  refine xj_nil ?_
  try simp only [cA, nA, List.append_nil]
  refine tj_all (rs := [11]) (by kernel_rfl) (by decide) ⟨⟨_, rfl, ?_⟩, trivial⟩
  refine rj_freeze (e := 60) (sz := 2) (n := 1) (v := .slice (some ⟨b40, 0, none⟩) 1 1) (xs := entsC [(x.g.term, cmd)]) fd_ (fun R5 hR5 hfr5 hxl5 => ?_)
  have hvm5 := entsFr (l := [(x.g.term, cmd)]) hfr5
  refine Ra Tryz.call85 (rlAdd_t v.va _ x.g x.g.last [(x.g.term, cmd)] hg (by unfold u64B; omega) (hva.mono hR5) hvm5 (by simp)) ?_
  rintro r R6 L' hR6 ⟨⟨va6, rfl, hva6⟩, rfl⟩
  rw [addR_eq hx.base] at hva6 ⊢
  dsimp only at hva6 ⊢
  have hva6o := hva6.one
  have hR46 := Hp.le_trans hR5 hR6
  have hyv : RNOk R6 { v with va := va6 } y := by rw [hy]; exact (hv.mono hR46).logd hva6
  have hyvo := rnC_one hyv
  try simp only [cA, nA]
  refine rj_tj ?_
  refine tj_all (rs := [12]) (by kernel_rfl) (by decide) ⟨⟨_, rfl, ?_⟩, trivial⟩
  refine Pm ?_
  refine rj_tj ?_
  refine tj_take (i := 13) rfl rfl rfl (by kernel_rfl) (by kernel_rfl) (by kernel_rfl) (wn0 rfl) rfl (fun σ => (y_extract rfl rfl)) ?_
  refine tj_take (i := 14) rfl rfl rfl (by kernel_rfl) (by kernel_rfl) (by kernel_rfl) (wn0 rfl) rfl (fun σ => (y_extract rfl rfl)) ?_
  refine tj_all (rs := [15]) (by kernel_rfl) (by decide) ⟨⟨_, rfl, ?_⟩, trivial⟩
  refine Pa (Ga Tryz.underlying37 Tryz.sizeOf34) ?_
  refine rj_tj ?_
  refine tj_all (rs := [16]) (by kernel_rfl) (by decide) ⟨⟨_, rfl, ?_⟩, trivial⟩
  refine rj_stores (vs := rlC va6 (x.g.play (.add x.g.last [(x.g.term, cmd)]))) m34 rfl (wn0 rfl) rfl rfl (rlC_one _ hva6o) fd_ (by exact (by decide : 8 ≤ 15)) rfl ?_
  refine rj_tj ?_
  refine tj_done (by kernel_rfl) ?_
  refine hK6 _ _ _ ?_
  refine cj_env (eL 2 rfl (eL 4 rfl eN)) ?_
  refine cj_seq fun K7 hK7 => ?_
  refine cj_turnA (A := blk b1 _ 37) (B := blk b1 (rnC { v with va := va6 } y) 37) fd_ (fun h hh => by rw [hy]; exact hh) ?_
  refine cj_region ?_
  refine Pa ((Lm (vs := rnC { v with va := va6 } y) m37)) ?_
  refine Ra Tryz.call86 (rcount_t { v with va := va6 } y 0 (by omega) hyn hyv hyr (hyin.pl hyr)) ?_
  rintro r R7 L' hR7 ⟨rfl, rfl⟩
  have hycv : RNOk R7 { v with va := va6 } y.count := (hyv.mono hR7).count
  have hyco := rnC_one hycv
  have hycva := hycv.va
  dsimp only at hycva
  try simp only [cA, nA]
  refine Sm (vs := rnC { v with va := va6 } y.count) m37 hyco ?_
  refine rj_nil (hK7 _ _ _ (cj_seq fun K8 hK8 => ?_))
  refine cj_mixg (L := [blk b1 (rnC { v with va := va6 } y.count) 37]) [0, 1, 2, 3, 4, 5, 6, 7] [8, 9, 10] [11, 12] _ sb_ (by kernel_rfl) (by kernel_rfl) (by kernel_rfl) rfl ?_
  refine Wa rfl (fun R1 hR1 G => (Lm (vs := rnC { v with va := va6 } y.count) m37)) ?_
  refine Wa rfl (fun R1 hR1 G => (Ga Tryz.underlying37 Tryz.sizeOf34)) ?_
  refine Wa rfl (fun R1 hR1 G => (Lb (vs := rlC va6 y.count.g) m34)) ?_
  refine Wa rfl (fun R1 hR1 G => (Ca Tryz.call75 (rlLast_q va6 y.count.g hycg (by first|exact hycva.mono hR1|exact hycva)))) ?_
  refine Wa rfl (fun R1 hR1 G => (Ga Tryz.underlying37 Tryz.sizeOf34)) ?_
  refine Wa rfl (fun R1 hR1 G => (Ga Tryz.underlying34 Tryz.sizeOf31)) ?_
  first | refine Wa rfl (fun R1 hR1 G => (La o31)) ?_ | refine Wa rfl (fun R1 hR1 G => (Ls o31)) ?_
  refine Wa rfl (fun R1 hR1 G => (Lm (vs := rnC { v with va := va6 } y.count) m37)) ?_
  refine fj_nil ?_
  refine xj_rj rfl ?_
  try simp only [cA, nA, List.append_nil]
  refine Ra Tryz.call72 (rfeedAll_t { v with va := va6 } y.count 0 (by omega) hycn hycv hycr) ?_
  rintro r R8 L' hR8 ⟨hfx8, rfl⟩
  have hfo8 := hfx8.one
  try simp only [cA, nA]
  refine rj_xk le_ sb_ ?_
  refine xj_rj rfl ?_
  try simp only [cA, nA, List.append_nil]
  refine Sm (vs := rnC { v with va := va6 } y.count) m37 hyco ?_
  refine rj_xk le_ sb_ ?_
  refine xj_rj rfl ?_
  try simp only [cA, nA, List.append_nil]
  refine Ps ?_
  refine rj_xk le_ sb_ ?_
  refine xj_nil ?_
  try simp only [cA, nA, List.append_nil]
  refine Ps ?_
  refine Ps ?_
  refine rj_nil (hK8 _ _ _ (cj_ret (hret _ _ _ ?_)))
  refine Ea Tryz.results48 (.cons (rv_cells m37 rfl fd_ rfl rfl) (.cons (rv_tmp rfl) (.cons (rv_tmp rfl) (.cons (rv_tmp rfl) .nil)))) [] (by first | exact Hp.le_refl _ | exact Hp.le_trans hR46 (Hp.le_trans hR7 hR8)) ?_
  rw [hP]; exact ⟨{ v with va := va6 }, _, by rw [rnC_feedAll]; rfl, (hycv.mono hR8).feedAll, by dsimp only; rw [feedAll_out hyo]; exact hfx8, rfl⟩
theorem instR_eq {g : LG} {i t : Int} {s : Bs} (hi : g.base < i) : g.instR i t s = (g.inst i t s, 0) := by
  unfold LG.instR LG.inst
  rw [if_neg (by omega)]
  by_cases h1 : g.termAt i = some t
  · have h2 := termAt_last h1
    rw [if_pos h1, if_pos h1]
    unfold LG.compR
    rw [if_neg (by omega)]
  · rw [if_neg h1, if_neg h1]
theorem answer_out {y : ND} (h : y.out = []) (m : Msg) (ok : Bool) (i : Int) : (y.answer m ok i).out = [y.stamp { Msg.zero with kind := 3, to := m.frm, ok := ok, index := i }] := by
  unfold ND.answer ND.send; rw [h]; rfl
theorem RNOk.answer {R : Hp} {v : RW} {y : ND} (h : RNOk R v y) (m : Msg) (ok : Bool) (i : Int) : RNOk R v (y.answer m ok i) := h.to ⟨rfl, rfl, rfl, rfl, rfl⟩
theorem rsnap_t {R : Hp} (v : RW) (x : ND) (m : Msg) (ve : Value) {T I : Int} {A : Nat} (hx : LIn T I A x) (hB : BB T I A) (hr : x.role = 0) (ho : x.out = []) (hv : RNOk R v x) (hm : MLn T I m) (hve : FrX entE R m.es ve) :
    Tri Tryz.prog 82 [.agg ⟨rnC v x⟩, .agg ⟨msgC m ve⟩] R [] (RP (x.snapP m)) := by
  have hx0 := hx.nin0 hB ho
  have hg := hx0.g (by omega)
  have hva := hv.va
  have hvao := hva.one
  have hveo := hve.one
  have hix := hm.index
  have hlt := hm.logTerm
  have hcb := hx.commit
  have hob := rnC_one hv
  unfold BB at hB
  refine tri_of Tryz.func82 rfl Tryz.ntmps82 rfl (fun σ F Q hret hend hpan => ?_)
  try simp only [cA, nA]
  refine cj_seq fun K1 hK1 => cj_region ?_
  refine rj_box (wn0 rfl) rfl rfl rfl (fun b2 => ?_)
  refine rj_box (wn0 rfl) rfl rfl rfl (fun b3 => ?_)
  refine rj_alloc (wn0 rfl) rfl Tryz.zeroValue37 rfl (fun b4 => ?_)
  refine Ps ?_
  refine rj_nil (hK1 _ _ _ (cj_seq fun K2 hK2 => cj_seq fun K3 hK3 => cj_region ?_))
  refine Pa (Ga Tryz.underlying48 Tryz.sizeOf31) ?_
  first | refine Pa (La o31) ?_ | refine Pa (Ls o31) ?_
  refine Pa (Ga Tryz.underlying37 Tryz.sizeOf31) ?_
  first | refine Pa (La o31) ?_ | refine Pa (Ls o31) ?_
  refine Pa (y_gtr rfl rfl) ?_
  refine rj_nil (hK3 _ _ _ ?_)
  refine cj_cond rfl (fun hc10 => ?_) (fun hc10 => ?_)
  have f1 : m.index > x.commit := by simpa using hc10
  obtain ⟨y, hy⟩ : ∃ y, y = { x with g := x.g.inst m.index m.logTerm m.state, commit := m.index } := ⟨_, rfl⟩
  have hE : x.snapP m = y.answer m true y.commit := by unfold ND.snapP; rw [if_pos f1, hy]
  have hyo : y.out = [] := by rw [hy]; exact ho
  refine cj_seq fun K5 hK5 => cj_region ?_
  refine Pa (Ga Tryz.underlying37 Tryz.sizeOf34) ?_
  refine Pa ((Lb (vs := rlC v.va x.g) m34)) ?_
  refine Pa (Ga Tryz.underlying48 Tryz.sizeOf31) ?_
  first | refine Pa (La o31) ?_ | refine Pa (Ls o31) ?_
  refine Pa (Ga Tryz.underlying48 Tryz.sizeOf31) ?_
  first | refine Pa (La o31) ?_ | refine Pa (Ls o31) ?_
  refine Pa (Ga Tryz.underlying48 Tryz.sizeOf9) ?_
  first | refine Pa (La o9) ?_ | refine Pa (Ls o9) ?_
  refine Ra Tryz.call104 (rlInstall_t v.va x.g m.index m.logTerm m.state hg (by unfold u64B; omega) hva) ?_
  rintro r R6 L' hR6 ⟨⟨va6, rfl, hva6⟩, rfl⟩
  rw [instR_eq (by omega)] at hva6 ⊢
  dsimp only at hva6 ⊢
  have hva6o := hva6.one
  obtain ⟨w, hw⟩ : ∃ w : RW, w = { v with va := va6 } := ⟨_, rfl⟩
  have hyv : RNOk R6 w y := by rw [hw, hy]; exact (((hv.mono hR6).logd hva6).to (y := { x with g := x.g.inst m.index m.logTerm m.state, commit := m.index }) ⟨rfl, rfl, rfl, rfl, rfl⟩)
  have hyvo := rnC_one hyv
  try simp only [cA, nA]
  refine Pm ?_
  refine Pa (y_extract rfl rfl) ?_
  refine Pa (y_extract rfl rfl) ?_
  refine Pa (Ga Tryz.underlying37 Tryz.sizeOf34) ?_
  refine rj_stores (vs := rlC va6 (x.g.inst m.index m.logTerm m.state)) m34 rfl (wn0 rfl) rfl rfl (rlC_one _ hva6o) fd_ (by exact (by decide : 8 ≤ 15)) rfl ?_
  refine rj_nil (hK5 _ _ _ ?_)
  refine cj_env (eL 2 rfl (eL 3 rfl (eL 4 rfl eN))) ?_
  refine cj_region ?_
  refine Pa (Ga Tryz.underlying48 Tryz.sizeOf31) ?_
  first | refine Pa (La o31) ?_ | refine Pa (Ls o31) ?_
  refine Pa (Ga Tryz.underlying37 Tryz.sizeOf31) ?_
  refine Sa o31 ?_
  refine rj_nil (hK2 _ _ _ (cj_seq fun K6 hK6 => ?_))
  refine cj_turnA (A := blk b2 _ 37) (B := blk b2 (rnC w y) 37) fd_ (fun h hh => by rw [hw, hy]; exact hh) ?_
  refine cj_mixg (L := [blk b2 (rnC w y) 37, blk b3 (msgC m ve) 48]) [0, 1, 2, 3, 4, 5] [6] [7, 8] _ sb_ (by kernel_rfl) (by kernel_rfl) (by kernel_rfl) rfl ?_
  refine Wa rfl (fun R1 hR1 G => (Lm (vs := rnC w y) m37)) ?_
  refine Wa rfl (fun R1 hR1 G => (Lm (vs := rnC w y) m37)) ?_
  refine Wa rfl (fun R1 hR1 G => (Ga Tryz.underlying48 Tryz.sizeOf3)) ?_
  first | refine Wa rfl (fun R1 hR1 G => (La o3)) ?_ | refine Wa rfl (fun R1 hR1 G => (Ls o3)) ?_
  refine Wa rfl (fun R1 hR1 G => (Ga Tryz.underlying37 Tryz.sizeOf31)) ?_
  first | refine Wa rfl (fun R1 hR1 G => (La o31)) ?_ | refine Wa rfl (fun R1 hR1 G => (Ls o31)) ?_
  refine fj_nil ?_
  refine xj_rj rfl ?_
  try simp only [cA, nA, List.append_nil]
  refine Ra Tryz.call80 (rappended_t w y m true y.commit hyv) ?_
  rintro r R8 L' hR8 ⟨hfx8, rfl⟩
  have hfo8 := hfx8.one
  try simp only [cA, nA]
  refine rj_xk le_ sb_ ?_
  refine xj_nil ?_
  try simp only [cA, nA, List.append_nil]
  refine Sm (vs := rnC w y) m37 hyvo ?_
  refine Ps ?_
  refine rj_nil (hK6 _ _ _ (cj_ret (hret _ _ _ ?_)))
  refine Ea Tryz.results82 (.cons (rv_cells m37 rfl fd_ rfl rfl) (.cons (rv_tmp rfl) .nil)) [] (by first | exact Hp.le_trans hR6 hR8 | exact hR8) ?_
  rw [hE]; exact ⟨w, _, rfl, (hyv.mono hR8).answer m true _, by rw [answer_out hyo]; exact hfx8, rfl⟩
  have f1 : ¬ m.index > x.commit := by simpa using hc10
  obtain ⟨y, hy⟩ : ∃ y, y = x := ⟨_, rfl⟩
  obtain ⟨w, hw⟩ : ∃ w, w = v := ⟨_, rfl⟩
  have hyv : RNOk R w y := by rw [hw, hy]; exact hv
  have hyvo := rnC_one hyv
  have hE : x.snapP m = y.answer m true y.commit := by unfold ND.snapP; rw [if_neg f1, hy]
  have hyo : y.out = [] := by rw [hy]; exact ho
  refine cj_skip (hK2 _ _ _ (cj_seq fun K7 hK7 => ?_))
  refine cj_turnA (A := blk b2 _ 37) (B := blk b2 (rnC w y) 37) fd_ (fun h hh => by rw [hw, hy]; exact hh) ?_
  refine cj_mixg (L := [blk b2 (rnC w y) 37, blk b3 (msgC m ve) 48]) [0, 1, 2, 3, 4, 5] [6] [7, 8] _ sb_ (by kernel_rfl) (by kernel_rfl) (by kernel_rfl) rfl ?_
  refine Wa rfl (fun R1 hR1 G => (Lm (vs := rnC w y) m37)) ?_
  refine Wa rfl (fun R1 hR1 G => (Lm (vs := rnC w y) m37)) ?_
  refine Wa rfl (fun R1 hR1 G => (Ga Tryz.underlying48 Tryz.sizeOf3)) ?_
  first | refine Wa rfl (fun R1 hR1 G => (La o3)) ?_ | refine Wa rfl (fun R1 hR1 G => (Ls o3)) ?_
  refine Wa rfl (fun R1 hR1 G => (Ga Tryz.underlying37 Tryz.sizeOf31)) ?_
  first | refine Wa rfl (fun R1 hR1 G => (La o31)) ?_ | refine Wa rfl (fun R1 hR1 G => (Ls o31)) ?_
  refine fj_nil ?_
  refine xj_rj rfl ?_
  try simp only [cA, nA, List.append_nil]
  refine Ra Tryz.call80 (rappended_t w y m true y.commit hyv) ?_
  rintro r R8 L' hR8 ⟨hfx8, rfl⟩
  have hfo8 := hfx8.one
  try simp only [cA, nA]
  refine rj_xk le_ sb_ ?_
  refine xj_nil ?_
  try simp only [cA, nA, List.append_nil]
  refine Sm (vs := rnC w y) m37 hyvo ?_
  refine Ps ?_
  refine rj_nil (hK7 _ _ _ (cj_ret (hret _ _ _ ?_)))
  refine Ea Tryz.results82 (.cons (rv_cells m37 rfl fd_ rfl rfl) (.cons (rv_tmp rfl) .nil)) [] (by first | exact Hp.le_trans hR6 hR8 | exact hR8) ?_
  rw [hE]; exact ⟨w, _, rfl, (hyv.mono hR8).answer m true _, by rw [answer_out hyo]; exact hfx8, rfl⟩
end V
end Go.Proofs.YtjdbigplednihaaGreat
set_option linter.unusedSimpArgs false
set_option linter.unusedVariables false
set_option maxRecDepth 100000
namespace Go.Proofs.YtjdbigplednihaaGreat
open Go.RowKit
namespace V
set_option maxHeartbeats 4000000
theorem addP_rest {x : ND} {m : Msg} (h1 : ¬ (m.index < x.g.base ∧ (m.es.length : Int) < x.g.base - m.index)) (h2 : ¬ (¬ m.index < x.g.base ∧ ¬ x.g.termAt m.index = some m.logTerm)) : x.addP m = x.restP m (x.cutM m) := by
  unfold ND.addP; rw [if_neg h1, if_neg h2]
theorem restP_none {x : ND} {m : Msg} {bh : Int} {l : List Ent} (h : ND.fits x.g l (bh + 1) = none) : x.restP m (bh, l) = (x.commits m (bh + l.length)).answer m true (bh + l.length) := by
  unfold ND.restP; dsimp only; rw [h]
theorem restP_some {x : ND} {m : Msg} {bh i : Int} {l l2 : List Ent} (h : ND.fits x.g l (bh + 1) = some (i, l2)) : x.restP m (bh, l) = if i ≤ x.commit then x else (ND.commits { x with g := x.g.play (.add (i - 1) l2) } m (bh + l.length)).answer m true (bh + l.length) := by
  unfold ND.restP; dsimp only; rw [h]
theorem addR_ok {g : LG} {i : Int} {m : List Ent} (h : g.base ≤ i ∧ i ≤ g.last) : g.addR i m = (g.play (.add i m), 0) := by unfold LG.addR; rw [if_neg (by omega)]
theorem radd_t {R : Hp} (v : RW) (x : ND) (m : Msg) (ve : Value) {T I : Int} {A : Nat} (hx : LIn T I A x) (hB : BB T (I + 20) (A + 20)) (hr : x.role = 0) (ho : x.out = []) (hv : RNOk R v x) (hm : MLn T I m) (hmc : m.commit < 18446744073709551616) (hve : FrX entE R m.es ve) :
    Tri Tryz.prog 83 [.agg ⟨rnC v x⟩, .agg ⟨msgC m ve⟩] R [] (RP (x.addP m)) := by
  have hB0 : BB T I A := LIn.bb hB (Int.le_refl _) (by omega) (by omega)
  have hx0 := hx.nin0 hB0 ho
  have hg := hx0.g (by omega)
  have hlb := LG.last_b hg
  have hva := hv.va
  have hvao := hva.one
  have hveo := hve.one
  have hidx := hm.index
  have hlt := hm.logTerm
  have hcm := hm.commit
  have hes := hm.es
  have hcb := hx.commit
  have hbs := hx.base
  have hla := hx.last
  have hob := rnC_one hv
  have hBu := hB
  unfold BB at hBu
  obtain ⟨qe, ce, rfl, hqe1, hqe2⟩ := hve.shape
  have hc1 : ((x.cutM m).2.length ≤ 20 ∧ ∀ e ∈ (x.cutM m).2, (0 ≤ e.1 ∧ e.1 ≤ T) ∧ e.2.length ≤ 100) ∧ 0 ≤ (x.cutM m).1 ∧ (x.cutM m).1 ≤ I := by
    unfold ND.cutM
    split
    · exact ⟨⟨by simp; omega, fun e he => hes.2 e (List.mem_of_mem_drop he)⟩, by dsimp only; omega⟩
    · exact ⟨hes, by dsimp only; omega⟩
  refine tri_of Tryz.func83 rfl Tryz.ntmps83 rfl (fun σ F Q hret hend hpan => ?_)
  try simp only [cA, nA]
  refine cj_seq fun K1 hK1 => cj_region ?_
  refine rj_box (wn0 rfl) rfl rfl rfl (fun b2 => ?_)
  refine rj_box (wn0 rfl) rfl rfl rfl (fun b3 => ?_)
  refine rj_alloc (wn0 rfl) rfl Tryz.zeroValue37 rfl (fun b4 => ?_)
  refine Ps ?_
  refine rj_nil (hK1 _ _ _ (cj_seq fun K2 hK2 => cj_region ?_))
  refine Pa (Ga Tryz.underlying48 Tryz.sizeOf31) ?_
  first | refine Pa (La o31) ?_ | refine Pa (Ls o31) ?_
  refine Ps ?_
  refine rj_nil (hK2 _ _ _ (cj_seq fun K3 hK3 => cj_region ?_))
  refine Pa (Ga Tryz.underlying48 Tryz.sizeOf32) ?_
  first | refine Pa (La o32) ?_ | refine Pa (Ls o32) ?_
  refine Ps ?_
  refine rj_nil (hK3 _ _ _ (cj_seq fun K4 hK4 => ?_))
  have hJ15 : ∀ (x1 : Int × List Ent × Value), (x1.1, x1.2.1) = x.cutM m ∧ FrX entE R x1.2.1 x1.2.2 ∧ x.addP m = x.restP m (x1.1, x1.2.1) ∧ x.g.base ≤ x1.1 ∧ x1.1 ≤ x.g.last → EJ ⟨Tryz.prog, 144, σ⟩ K4 [(2, .pointer (some ⟨b2, 0, none⟩)), (3, .pointer (some ⟨b3, 0, none⟩)), (4, .pointer (some ⟨b4, 0, none⟩)), (6, .int .u64 x1.1), (7, x1.2.2)] R (blk b2 (rnC v x) 37 :: blk b3 (msgC m (.slice qe m.es.length ce)) 48 :: blk b4 rn0 37 :: F) := by
    rintro ⟨bh, l, vl⟩ ⟨hcut, hl, hnot, hbhb⟩
    try dsimp only
    dsimp only at hcut hl hnot hbhb
    rw [← hcut] at hc1
    dsimp only at hc1
    obtain ⟨ql, cl, rfl, hql1, hql2⟩ := hl.shape
    refine hK4 _ _ _ (cj_seq fun K5 hK5 => cj_region ?_)
    refine Pm ?_
    refine Pm ?_
    first | refine Pa (y_len_sl Tryz.underlying32 rfl) ?_ | refine Pa (y_len_slc Tryz.underlying32 rfl fd_) ?_
    refine Pa ((y_conv_in Tryz.underlying3 Tryz.underlying31 rfl (by (simp only [IntKind.min, IntKind.max, IntKind.signed, IntKind.bits, Bool.false_eq_true, ite_false, ite_true]; omega)))) ?_
    refine Pa ((y_addu rfl rfl (by omega))) ?_
    refine Ps ?_
    refine rj_nil (hK5 _ _ _ (cj_seq fun K6 hK6 => ?_))
    have hJ25 : ∀ (x2 : ND × RW × Hp), x2.1.out = [] ∧ RNOk x2.2.2 x2.2.1 x2.1 ∧ R.le x2.2.2 ∧ x.addP m = (x2.1.commits m (bh + l.length)).answer m true (bh + l.length) → EJ ⟨Tryz.prog, 144, σ⟩ K6 [(2, .pointer (some ⟨b2, 0, none⟩)), (3, .pointer (some ⟨b3, 0, none⟩)), (4, .pointer (some ⟨b4, 0, none⟩)), (12, .int .u64 (bh + (l.length : Int)))] x2.2.2 (blk b2 (rnC x2.2.1 x2.1) 37 :: blk b3 (msgC m (.slice qe m.es.length ce)) 48 :: blk b4 rn0 37 :: F) := by
      rintro ⟨y, w, R6⟩ ⟨hyo, hyv, hR6, hF⟩
      try dsimp only
      dsimp only at hyo hyv hR6 hF
      have hyvo := rnC_one (show RNOk R6 w (y.commits m (bh + l.length)) from hyv.to ⟨rfl, rfl, rfl, rfl, rfl⟩)
      refine hK6 _ _ _ (cj_seq fun K7 hK7 => cj_region ?_)
      refine Pa (Ga Tryz.underlying37 Tryz.sizeOf31) ?_
      first | refine Pa (La o31) ?_ | refine Pa (Ls o31) ?_
      refine Pa (Ga Tryz.underlying48 Tryz.sizeOf31) ?_
      first | refine Pa (La o31) ?_ | refine Pa (Ls o31) ?_
      refine Pm ?_
      refine Pa (y_min rfl rfl) ?_
      refine Pa (y_max rfl rfl) ?_
      refine Pa (Ga Tryz.underlying37 Tryz.sizeOf31) ?_
      refine Sa o31 ?_
      refine rj_nil (hK7 _ _ _ ?_)
      refine cj_env (eL 2 rfl (eL 3 rfl (eL 4 rfl (eL 12 rfl eN)))) ?_
      refine cj_seq fun K8 hK8 => ?_
      refine cj_mixg (L := [blk b2 (rnC w (y.commits m (bh + l.length))) 37, blk b3 (msgC m (.slice qe m.es.length ce)) 48]) [0, 1, 2, 3, 4] [5] [6, 7] _ sb_ (by kernel_rfl) (by kernel_rfl) (by kernel_rfl) rfl ?_
      refine Wa rfl (fun R1 hR1 G => (Lm (vs := rnC w (y.commits m (bh + l.length))) m37)) ?_
      refine Wa rfl (fun R1 hR1 G => (Lm (vs := rnC w (y.commits m (bh + l.length))) m37)) ?_
      refine Wa rfl (fun R1 hR1 G => (Ga Tryz.underlying48 Tryz.sizeOf3)) ?_
      first | refine Wa rfl (fun R1 hR1 G => (La o3)) ?_ | refine Wa rfl (fun R1 hR1 G => (Ls o3)) ?_
      refine Wa rfl (fun R1 hR1 G => (y_move rfl)) ?_
      refine fj_nil ?_
      refine xj_rj rfl ?_
      try simp only [cA, nA, List.append_nil]
      refine Ra Tryz.call80 (rappended_t w (y.commits m (bh + l.length)) m true (bh + l.length) (hyv.to ⟨rfl, rfl, rfl, rfl, rfl⟩)) ?_
      rintro r R8 L' hR8 ⟨hfx8, rfl⟩
      have hfo8 := hfx8.one
      have hR68 := Hp.le_trans hR6 hR8
      try simp only [cA, nA]
      refine rj_xk le_ sb_ ?_
      refine xj_nil ?_
      try simp only [cA, nA, List.append_nil]
      refine Sm (vs := rnC w (y.commits m (bh + l.length))) m37 hyvo ?_
      refine Ps ?_
      refine rj_nil (hK8 _ _ _ (cj_ret (hret _ _ _ ?_)))
      refine Ea Tryz.results83 (.cons (rv_cells m37 rfl fd_ rfl rfl) (.cons (rv_tmp rfl) .nil)) [] (by first | exact Hp.le_refl _ | assumption) ?_
      first|(rw [hE]; exact ⟨v, _, rfl, (hv.mono hR8).answer m true _, by rw [answer_out ho]; exact hfx8, rfl⟩)|(rw [eh0]; exact ⟨v, _, rfl, (hv.mono hR8).answer m false _, by rw [answer_out ho]; exact hfx8, rfl⟩)|(rw [hfs]; exact ⟨v, _, rfl, hv, by rw [ho]; exact FrX.nil, rfl⟩)|(rw [hF]; exact ⟨w, _, rfl, ((hyv.mono hR8).to (y := y.commits m (bh + l.length)) ⟨rfl, rfl, rfl, rfl, rfl⟩).answer m true _, by rw [answer_out (show (y.commits m (bh + l.length)).out = [] from hyo)]; exact hfx8, rfl⟩)
    refine cj_seq fun K9 hK9 => cj_region ?_
    refine Ps ?_
    refine rj_nil (hK9 _ _ _ (cj_block ?_))
    refine cj_env (E' := (fun (x3 : Nat) => [(2, .pointer (some ⟨b2, 0, none⟩)), (3, .pointer (some ⟨b3, 0, none⟩)), (4, .pointer (some ⟨b4, 0, none⟩)), (6, .int .u64 bh), (7, .slice ql l.length cl), (12, .int .u64 (bh + (l.length : Int))), (13, .int .i64 (x3 : Int))]) 0) (eC rfl (eC rfl (eC rfl (eC rfl (eC rfl (eC rfl (eC rfl eN))))))) ?_
    refine cj_sub (M := (fun (x3 : Nat) => blk b2 (rnC v x) 37 :: blk b3 (msgC m (.slice qe m.es.length ce)) 48 :: blk b4 rn0 37 :: F) 0) sb_ ?_
    refine cj_loop (fun (x3 : Nat) => [(2, .pointer (some ⟨b2, 0, none⟩)), (3, .pointer (some ⟨b3, 0, none⟩)), (4, .pointer (some ⟨b4, 0, none⟩)), (6, .int .u64 bh), (7, .slice ql l.length cl), (12, .int .u64 (bh + (l.length : Int))), (13, .int .i64 (x3 : Int))]) (fun (x3 : Nat) => R) (fun (x3 : Nat) => blk b2 (rnC v x) 37 :: blk b3 (msgC m (.slice qe m.es.length ce)) 48 :: blk b4 rn0 37 :: F) (fun (x3 : Nat) => x3 ≤ l.length ∧ ND.fits x.g l (bh + 1) = ND.fits x.g (l.drop x3) (bh + 1 + x3)) (fun (x3 : Nat) => l.length - x3) 0 (⟨by simp, by simp⟩) ?_
    rintro i ⟨hi, hfk⟩
    try dsimp only
    refine cj_seq fun K10 hK10 => cj_seq fun K11 hK11 => cj_region ?_
    refine Pm ?_
    refine Pm ?_
    first | refine Pa (y_len_sl Tryz.underlying32 rfl) ?_ | refine Pa (y_len_slc Tryz.underlying32 rfl fd_) ?_
    refine Pa (y_lss rfl rfl) ?_
    refine rj_nil (hK11 _ _ _ ?_)
    refine cj_cond rfl (fun hc87 => ?_) (fun hc87 => ?_)
    try simp only [dT, dF, nT, nF, tF, fT] at hc87
    refine cj_skip (hK10 _ _ _ (cj_seq fun K13 hK13 => cj_block (cj_seq fun K14 hK14 => ?_)))
    have hin : i < l.length := by (try simp at hc87); omega
    obtain ⟨e, he⟩ : ∃ e, l[i]? = some e := ⟨_, List.getElem?_eq_getElem hin⟩
    obtain ⟨be, oe, ce', cse, hee, rfl, _, hcell⟩ := hl.at he
    obtain ⟨rfl, rfl⟩ : ql = some ⟨be, oe, none⟩ ∧ cl = ce' := by cases hee; exact ⟨rfl, rfl⟩
    replace hcell : Hp.cell R ⟨be, oe + i * 2, none⟩ = some (.int .u64 e.1) := hcell 0 _ rfl
    have hat := rlAt_q (R := R) v.va x.g hg hva (bh + 1 + i) (by unfold u64B; omega)
    obtain ⟨eo, ok, hev, hok1, hok2⟩ := entV_cases (x.g.at (bh + 1 + i))
    have heb := hc1.1.2 e (List.mem_of_getElem? he)
    refine cj_region ?_
    refine Pm ?_
    refine Pa ((y_addu rfl rfl (by omega))) ?_
    refine Pm ?_
    refine Pa ((y_conv_in Tryz.underlying3 Tryz.underlying31 rfl (by (simp only [IntKind.min, IntKind.max, IntKind.signed, IntKind.bits, Bool.false_eq_true, ite_false, ite_true]; omega)))) ?_
    refine Pa ((y_addu rfl rfl (by omega))) ?_
    refine Ps ?_
    refine rj_nil (hK14 _ _ _ (cj_seq fun K15 hK15 => cj_region ?_))
    refine Pa (Ga Tryz.underlying37 Tryz.sizeOf34) ?_
    refine Pa ((Lb (vs := rlC v.va x.g) m34)) ?_
    refine Pm ?_
    refine Pa (Ca Tryz.call105 (hat.eq2 hev)) ?_
    refine Pm ?_
    refine Pa (y_extract rfl rfl) ?_
    refine Pa (y_extract rfl rfl) ?_
    refine rj_alloc (wn0 rfl) rfl Tryz.zeroValue60 rfl (fun b15 => ?_)
    refine Sm (vs := entC eo) m60 (entE.one (R := R) (x := eo) rfl) ?_
    refine Ps ?_
    refine rj_nil (hK15 _ _ _ ?_)
    refine cj_env (eL 2 rfl (eL 3 rfl (eL 4 rfl (eL 6 rfl (eL 7 rfl (eL 12 rfl (eL 13 rfl (eL 14 rfl (eL 15 rfl (eL 16 rfl eN)))))))))) ?_
    refine cj_seq fun K16 hK16 => cj_seq fun K17 hK17 => ?_
    refine cj_draw (by kernel_rfl) (by kernel_rfl) ?_
    refine Qa (y_move rfl) ?_
    refine Qa (y_move rfl) ?_
    refine qj_part 103 rfl (fun hg103 => ?_) (fun hg103 => ?_)
    have g1 := hok1 (by simpa using hg103)
    refine Qb (Ga Tryz.underlying60 Tryz.sizeOf31) ?_
    first | refine Qb (La o31) ?_ | refine Qb (Ls o31) ?_
    refine Qb (y_move rfl) ?_
    refine Qb (y_move rfl) ?_
    first | refine Qb (y_indexAddr Tryz.underlying32 Tryz.sizeOf60 rfl rfl om_) ?_ | refine Qb (y_index_slc Tryz.underlying32 Tryz.sizeOf60 rfl rfl fd_ om_) ?_
    refine Qb ((Ga Tryz.underlying60 Tryz.sizeOf31)) ?_
    refine Qb ((y_load_ro o31 rfl (by rw [show ((i : Nat) : Int).toNat = i by simp]; exact hcell))) ?_
    refine Qb (y_eql rfl rfl) ?_
    refine Qa (y_pick_t rfl rfl) ?_
    refine qj_nil ?_
    refine hK17 _ _ _ ?_
    refine cj_cond rfl (fun hc112 => ?_) (fun hc112 => ?_)
    have hyes : (x.g.at (bh + 1 + i)).map (·.1) = some e.1 := by rw [g1]; simpa using hc112
    refine cj_exit (hK13 _ _ _ (cj_region ?_))
    refine Pm ?_
    first | refine Pa (y_add64 rfl rfl om_) ?_ | refine Pa (y_add rfl rfl) ?_
    refine Ps ?_
    refine rj_nil ?_
    refine ej_on (q' := roundK _ _ _ _ _ _ _) rfl ?_
    refine ej_round (i + 1) (⟨by omega, by rw [hfk, drop_cons he, fits_yes hyes]; congr 1; omega⟩) (by omega) (eC rfl (eC rfl (eC rfl (eC rfl (eC rfl (eC rfl (eC rfl eN))))))) rfl sb_
    first|(have hno : ¬ (x.g.at (bh + 1 + i)).map (·.1) = some e.1 := by rw [g1]; simpa using hc112)|skip
    refine cj_skip (hK16 _ _ _ (cj_seq fun K19 hK19 => cj_seq fun K20 hK20 => ?_))
    have hfs : x.addP m = if bh + 1 + i ≤ x.commit then x else (ND.commits { x with g := x.g.play (.add (bh + 1 + i - 1) (l.drop i)) } m (bh + l.length)).answer m true (bh + l.length) := by rw [hnot, restP_some (by rw [hfk, drop_cons he, fits_no hno])]; rw [drop_cons he]
    have hfa := fits_at (g := x.g) (l := l) (i := bh + 1) (j := bh + 1 + i) (l2 := l.drop i) (by rw [hfk, drop_cons he, fits_no hno])
    refine cj_region ?_
    refine Pm ?_
    refine Pa (Ga Tryz.underlying37 Tryz.sizeOf31) ?_
    first | refine Pa (La o31) ?_ | refine Pa (Ls o31) ?_
    refine Pa (y_leq rfl rfl) ?_
    refine rj_nil (hK20 _ _ _ ?_)
    refine cj_env (eL 2 rfl (eL 3 rfl (eL 4 rfl (eL 7 rfl (eL 12 rfl (eL 13 rfl (eL 14 rfl (eL 116 rfl eN)))))))) ?_
    refine cj_cond rfl (fun hc116 => ?_) (fun hc116 => ?_)
    have g2 : bh + 1 + i ≤ x.commit := by simpa using hc116
    rw [if_pos g2] at hfs
    refine cj_seq fun K22 hK22 => cj_region ?_
    refine Pa ((Lm (vs := rnC v x) m37)) ?_
    refine Sm (vs := rnC v x) m37 hob ?_
    refine Ps ?_
    refine rj_nil (hK22 _ _ _ (cj_ret (hret _ _ _ ?_)))
    refine Ea Tryz.results83 (.cons (rv_cells m37 rfl fd_ rfl rfl) (.cons (rv_tmp rfl) .nil)) [] (by first | exact Hp.le_refl _ | assumption) ?_
    first|(rw [hE]; exact ⟨v, _, rfl, (hv.mono hR8).answer m true _, by rw [answer_out ho]; exact hfx8, rfl⟩)|(rw [eh0]; exact ⟨v, _, rfl, (hv.mono hR8).answer m false _, by rw [answer_out ho]; exact hfx8, rfl⟩)|(rw [hfs]; exact ⟨v, _, rfl, hv, by rw [ho]; exact FrX.nil, rfl⟩)|(rw [hF]; exact ⟨w, _, rfl, ((hyv.mono hR8).to (y := y.commits m (bh + l.length)) ⟨rfl, rfl, rfl, rfl, rfl⟩).answer m true _, by rw [answer_out (show (y.commits m (bh + l.length)).out = [] from hyo)]; exact hfx8, rfl⟩)
    have g2 : ¬ bh + 1 + i ≤ x.commit := by simpa using hc116
    rw [if_neg g2] at hfs
    have hib : x.g.base ≤ bh + 1 + i - 1 ∧ bh + 1 + i - 1 ≤ x.g.last := by (rcases hfa.2.2 with h | ⟨e2, h⟩; omega; have := at_last h; omega)
    have hsd := hl.sub (a := i) (b := l.length) (by omega) (by omega)
    rw [List.take_of_length_le (by simp)] at hsd
    have hdl : (l.drop i).length ≤ 20 := by simp; omega
    refine cj_skip (hK19 _ _ _ (cj_seq fun K23 hK23 => ?_))
    refine cj_mixt (L := [blk b2 (rnC v x) 37]) [0, 1, 2, 3, 4, 5, 6] [] [7, 8, 9, 10, 11, 12] _ sb_ (by kernel_rfl) (by kernel_rfl) ?_
    refine Wa rfl (fun R1 hR1 G => (Ga Tryz.underlying37 Tryz.sizeOf34)) ?_
    refine Wa rfl (fun R1 hR1 G => (Lb (vs := rlC v.va x.g) m34)) ?_
    refine Wa rfl (fun R1 hR1 G => (y_move rfl)) ?_
    refine Wa rfl (fun R1 hR1 G => (y_subu rfl rfl (by omega))) ?_
    refine Wa rfl (fun R1 hR1 G => (y_move rfl)) ?_
    refine Wa rfl (fun R1 hR1 G => (y_move rfl)) ?_
    refine Wa rfl (fun R1 hR1 G => (y_slice_sl (l := i) (h := l.length) Tryz.underlying32 Tryz.sizeOf60 rfl ⟨.i64, rfl⟩ rfl (by omega))) ?_
    refine fj_nil ?_
    refine xj_nil ?_
    try simp only [cA, nA, List.append_nil]
    refine tj_all (rs := [7]) (by kernel_rfl) (by decide) ⟨⟨_, rfl, ?_⟩, trivial⟩
    refine Ra Tryz.call85 (rlAdd_t v.va _ x.g (bh + 1 + i - 1) (l.drop i) hg (by unfold u64B; omega) hva hsd (by omega)) ?_
    rintro r R6 L' hR6 ⟨⟨va6, rfl, hva6⟩, rfl⟩
    rw [addR_ok hib] at hva6 ⊢
    dsimp only at hva6 ⊢
    have hva6o := hva6.one
    try simp only [cA, nA]
    refine rj_tj ?_
    refine tj_all (rs := [8]) (by kernel_rfl) (by decide) ⟨⟨_, rfl, ?_⟩, trivial⟩
    refine Pm ?_
    refine rj_tj ?_
    refine tj_take (i := 9) rfl rfl rfl (by kernel_rfl) (by kernel_rfl) (by kernel_rfl) (wn0 rfl) rfl (fun σ => (y_extract rfl rfl)) ?_
    refine tj_take (i := 10) rfl rfl rfl (by kernel_rfl) (by kernel_rfl) (by kernel_rfl) (wn0 rfl) rfl (fun σ => (y_extract rfl rfl)) ?_
    refine tj_all (rs := [11]) (by kernel_rfl) (by decide) ⟨⟨_, rfl, ?_⟩, trivial⟩
    refine Pa (Ga Tryz.underlying37 Tryz.sizeOf34) ?_
    refine rj_tj ?_
    refine tj_all (rs := [12]) (by kernel_rfl) (by decide) ⟨⟨_, rfl, ?_⟩, trivial⟩
    refine rj_stores (vs := rlC va6 (x.g.play (.add (bh + 1 + i - 1) (l.drop i)))) m34 rfl (wn0 rfl) rfl rfl (rlC_one _ hva6o) fd_ (by exact (by decide : 8 ≤ 15)) rfl ?_
    refine rj_tj ?_
    refine tj_done (by kernel_rfl) ?_
    refine hK23 _ _ _ (cj_exit ?_)
    refine ej_join hJ25 (({ x with g := x.g.play (.add (bh + 1 + i - 1) (l.drop i)) }, { v with va := va6 }, R6)) (⟨ho, (hv.mono hR6).logd hva6, hR6, hfs⟩) (eC rfl (eC rfl (eC rfl (eC rfl eN)))) rfl sb_
    have g1 := hok2 (by simpa using hg103)
    have hno : ¬ (x.g.at (bh + 1 + i)).map (·.1) = some e.1 := by rw [g1]; simp
    refine Qk ?_
    refine Qk ?_
    refine Qk ?_
    refine Qk ?_
    refine Qk ?_
    refine Qk ?_
    refine Qk ?_
    refine Qk ?_
    refine Qa (y_pick_f rfl rfl) ?_
    refine qj_nil ?_
    refine hK17 _ _ _ ?_
    refine cj_env (eL 2 rfl (eL 3 rfl (eL 4 rfl (eL 6 rfl (eL 7 rfl (eL 12 rfl (eL 13 rfl (eL 14 rfl (eL 112 rfl eN))))))))) ?_
    refine cj_cond_f rfl (cj_skip (hK16 _ _ _ (cj_seq fun K24 hK24 => cj_seq fun K25 hK25 => ?_)))
    have hfs : x.addP m = if bh + 1 + i ≤ x.commit then x else (ND.commits { x with g := x.g.play (.add (bh + 1 + i - 1) (l.drop i)) } m (bh + l.length)).answer m true (bh + l.length) := by rw [hnot, restP_some (by rw [hfk, drop_cons he, fits_no hno])]; rw [drop_cons he]
    have hfa := fits_at (g := x.g) (l := l) (i := bh + 1) (j := bh + 1 + i) (l2 := l.drop i) (by rw [hfk, drop_cons he, fits_no hno])
    refine cj_region ?_
    refine Pm ?_
    refine Pa (Ga Tryz.underlying37 Tryz.sizeOf31) ?_
    first | refine Pa (La o31) ?_ | refine Pa (Ls o31) ?_
    refine Pa (y_leq rfl rfl) ?_
    refine rj_nil (hK25 _ _ _ ?_)
    refine cj_cond rfl (fun hc116 => ?_) (fun hc116 => ?_)
    have g2 : bh + 1 + i ≤ x.commit := by simpa using hc116
    rw [if_pos g2] at hfs
    refine cj_seq fun K27 hK27 => cj_region ?_
    refine Pa ((Lm (vs := rnC v x) m37)) ?_
    refine Sm (vs := rnC v x) m37 hob ?_
    refine Ps ?_
    refine rj_nil (hK27 _ _ _ (cj_ret (hret _ _ _ ?_)))
    refine Ea Tryz.results83 (.cons (rv_cells m37 rfl fd_ rfl rfl) (.cons (rv_tmp rfl) .nil)) [] (by first | exact Hp.le_refl _ | assumption) ?_
    first|(rw [hE]; exact ⟨v, _, rfl, (hv.mono hR8).answer m true _, by rw [answer_out ho]; exact hfx8, rfl⟩)|(rw [eh0]; exact ⟨v, _, rfl, (hv.mono hR8).answer m false _, by rw [answer_out ho]; exact hfx8, rfl⟩)|(rw [hfs]; exact ⟨v, _, rfl, hv, by rw [ho]; exact FrX.nil, rfl⟩)|(rw [hF]; exact ⟨w, _, rfl, ((hyv.mono hR8).to (y := y.commits m (bh + l.length)) ⟨rfl, rfl, rfl, rfl, rfl⟩).answer m true _, by rw [answer_out (show (y.commits m (bh + l.length)).out = [] from hyo)]; exact hfx8, rfl⟩)
    have g2 : ¬ bh + 1 + i ≤ x.commit := by simpa using hc116
    rw [if_neg g2] at hfs
    have hib : x.g.base ≤ bh + 1 + i - 1 ∧ bh + 1 + i - 1 ≤ x.g.last := by (rcases hfa.2.2 with h | ⟨e2, h⟩; omega; have := at_last h; omega)
    have hsd := hl.sub (a := i) (b := l.length) (by omega) (by omega)
    rw [List.take_of_length_le (by simp)] at hsd
    have hdl : (l.drop i).length ≤ 20 := by simp; omega
    refine cj_skip (hK24 _ _ _ (cj_seq fun K28 hK28 => ?_))
    refine cj_mixt (L := [blk b2 (rnC v x) 37]) [0, 1, 2, 3, 4, 5, 6] [] [7, 8, 9, 10, 11, 12] _ sb_ (by kernel_rfl) (by kernel_rfl) ?_
    refine Wa rfl (fun R1 hR1 G => (Ga Tryz.underlying37 Tryz.sizeOf34)) ?_
    refine Wa rfl (fun R1 hR1 G => (Lb (vs := rlC v.va x.g) m34)) ?_
    refine Wa rfl (fun R1 hR1 G => (y_move rfl)) ?_
    refine Wa rfl (fun R1 hR1 G => (y_subu rfl rfl (by omega))) ?_
    refine Wa rfl (fun R1 hR1 G => (y_move rfl)) ?_
    refine Wa rfl (fun R1 hR1 G => (y_move rfl)) ?_
    refine Wa rfl (fun R1 hR1 G => (y_slice_sl (l := i) (h := l.length) Tryz.underlying32 Tryz.sizeOf60 rfl ⟨.i64, rfl⟩ rfl (by omega))) ?_
    refine fj_nil ?_
    refine xj_nil ?_
    try simp only [cA, nA, List.append_nil]
    refine tj_all (rs := [7]) (by kernel_rfl) (by decide) ⟨⟨_, rfl, ?_⟩, trivial⟩
    refine Ra Tryz.call85 (rlAdd_t v.va _ x.g (bh + 1 + i - 1) (l.drop i) hg (by unfold u64B; omega) hva hsd (by omega)) ?_
    rintro r R6 L' hR6 ⟨⟨va6, rfl, hva6⟩, rfl⟩
    rw [addR_ok hib] at hva6 ⊢
    dsimp only at hva6 ⊢
    have hva6o := hva6.one
    try simp only [cA, nA]
    refine rj_tj ?_
    refine tj_all (rs := [8]) (by kernel_rfl) (by decide) ⟨⟨_, rfl, ?_⟩, trivial⟩
    refine Pm ?_
    refine rj_tj ?_
    refine tj_take (i := 9) rfl rfl rfl (by kernel_rfl) (by kernel_rfl) (by kernel_rfl) (wn0 rfl) rfl (fun σ => (y_extract rfl rfl)) ?_
    refine tj_take (i := 10) rfl rfl rfl (by kernel_rfl) (by kernel_rfl) (by kernel_rfl) (wn0 rfl) rfl (fun σ => (y_extract rfl rfl)) ?_
    refine tj_all (rs := [11]) (by kernel_rfl) (by decide) ⟨⟨_, rfl, ?_⟩, trivial⟩
    refine Pa (Ga Tryz.underlying37 Tryz.sizeOf34) ?_
    refine rj_tj ?_
    refine tj_all (rs := [12]) (by kernel_rfl) (by decide) ⟨⟨_, rfl, ?_⟩, trivial⟩
    refine rj_stores (vs := rlC va6 (x.g.play (.add (bh + 1 + i - 1) (l.drop i)))) m34 rfl (wn0 rfl) rfl rfl (rlC_one _ hva6o) fd_ (by exact (by decide : 8 ≤ 15)) rfl ?_
    refine rj_tj ?_
    refine tj_done (by kernel_rfl) ?_
    refine hK28 _ _ _ (cj_exit ?_)
    refine ej_join hJ25 (({ x with g := x.g.play (.add (bh + 1 + i - 1) (l.drop i)) }, { v with va := va6 }, R6)) (⟨ho, (hv.mono hR6).logd hva6, hR6, hfs⟩) (eC rfl (eC rfl (eC rfl (eC rfl eN)))) rfl sb_
    try simp only [dT, dF, nT, nF, tF, fT] at hc87
    refine cj_exit ?_
    refine ej_join hJ25 ((x, v, R)) (⟨ho, hv, Hp.le_refl _, by rw [hnot, restP_none (by rw [hfk, List.drop_of_length_le (by (try simp at hc87); omega)]; rfl)]⟩) (eC rfl (eC rfl (eC rfl (eC rfl eN)))) rfl sb_
  refine cj_seq fun K29 hK29 => cj_region ?_
  refine Pm ?_
  refine Pa (Ga Tryz.underlying37 Tryz.sizeOf34) ?_
  refine Pa (Ga Tryz.underlying34 Tryz.sizeOf31) ?_
  first | refine Pa (La o31) ?_ | refine Pa (Ls o31) ?_
  refine Pa (y_lss rfl rfl) ?_
  refine rj_nil (hK29 _ _ _ ?_)
  refine cj_env (eL 2 rfl (eL 3 rfl (eL 4 rfl (eL 6 rfl (eL 7 rfl (eL 25 rfl eN)))))) ?_
  refine cj_cond rfl (fun hc25 => ?_) (fun hc25 => ?_)
  have f1 : m.index < x.g.base := by simpa using hc25
  refine cj_seq fun K31 hK31 => cj_region ?_
  refine Pa (Ga Tryz.underlying37 Tryz.sizeOf34) ?_
  refine Pa (Ga Tryz.underlying34 Tryz.sizeOf31) ?_
  first | refine Pa (La o31) ?_ | refine Pa (Ls o31) ?_
  refine Pm ?_
  refine Pa ((y_subu rfl rfl (by omega))) ?_
  refine Ps ?_
  refine rj_nil (hK31 _ _ _ (cj_seq fun K32 hK32 => cj_seq fun K33 hK33 => cj_region ?_))
  refine Pm ?_
  first | refine Pa (y_len_sl Tryz.underlying32 rfl) ?_ | refine Pa (y_len_slc Tryz.underlying32 rfl fd_) ?_
  refine Pa ((y_conv_in Tryz.underlying3 Tryz.underlying31 rfl (by (simp only [IntKind.min, IntKind.max, IntKind.signed, IntKind.bits, Bool.false_eq_true, ite_false, ite_true]; omega)))) ?_
  refine Pm ?_
  refine Pa (y_lss rfl rfl) ?_
  refine rj_nil (hK33 _ _ _ ?_)
  refine cj_cond rfl (fun hc35 => ?_) (fun hc35 => ?_)
  have f2 : (m.es.length : Int) < x.g.base - m.index := by (try simp at hc35); omega
  have hE : x.addP m = x.answer m true x.g.base := by unfold ND.addP; rw [if_pos ⟨f1, f2⟩]
  refine cj_seq fun K35 hK35 => ?_
  refine cj_mixg (L := [blk b2 (rnC v x) 37, blk b3 (msgC m (.slice qe m.es.length ce)) 48]) [0, 1, 2, 3, 4, 5, 6] [7] [8, 9] _ sb_ (by kernel_rfl) (by kernel_rfl) (by kernel_rfl) rfl ?_
  refine Wa rfl (fun R1 hR1 G => (Lm (vs := rnC v x) m37)) ?_
  refine Wa rfl (fun R1 hR1 G => (Lm (vs := rnC v x) m37)) ?_
  refine Wa rfl (fun R1 hR1 G => (Ga Tryz.underlying48 Tryz.sizeOf3)) ?_
  first | refine Wa rfl (fun R1 hR1 G => (La o3)) ?_ | refine Wa rfl (fun R1 hR1 G => (Ls o3)) ?_
  refine Wa rfl (fun R1 hR1 G => (Ga Tryz.underlying37 Tryz.sizeOf34)) ?_
  refine Wa rfl (fun R1 hR1 G => (Ga Tryz.underlying34 Tryz.sizeOf31)) ?_
  first | refine Wa rfl (fun R1 hR1 G => (La o31)) ?_ | refine Wa rfl (fun R1 hR1 G => (Ls o31)) ?_
  refine fj_nil ?_
  refine xj_rj rfl ?_
  try simp only [cA, nA, List.append_nil]
  refine Ra Tryz.call80 (rappended_t v x m true x.g.base hv) ?_
  rintro r R8 L' hR8 ⟨hfx8, rfl⟩
  have hfo8 := hfx8.one
  try simp only [cA, nA]
  refine rj_xk le_ sb_ ?_
  refine xj_nil ?_
  try simp only [cA, nA, List.append_nil]
  refine Sm (vs := rnC v x) m37 hob ?_
  refine Ps ?_
  refine rj_nil (hK35 _ _ _ ?_)
  refine cj_env (eL 4 rfl (eL 5 rfl eN)) ?_
  refine cj_ret (hret _ _ _ ?_)
  refine Ea Tryz.results83 (.cons (rv_cells m37 rfl fd_ rfl rfl) (.cons (rv_tmp rfl) .nil)) [] (by first | exact Hp.le_refl _ | assumption) ?_
  first|(rw [hE]; exact ⟨v, _, rfl, (hv.mono hR8).answer m true _, by rw [answer_out ho]; exact hfx8, rfl⟩)|(rw [eh0]; exact ⟨v, _, rfl, (hv.mono hR8).answer m false _, by rw [answer_out ho]; exact hfx8, rfl⟩)|(rw [hfs]; exact ⟨v, _, rfl, hv, by rw [ho]; exact FrX.nil, rfl⟩)|(rw [hF]; exact ⟨w, _, rfl, ((hyv.mono hR8).to (y := y.commits m (bh + l.length)) ⟨rfl, rfl, rfl, rfl, rfl⟩).answer m true _, by rw [answer_out (show (y.commits m (bh + l.length)).out = [] from hyo)]; exact hfx8, rfl⟩)
  have f2 : ¬ (m.es.length : Int) < x.g.base - m.index := by (try simp at hc35); omega
  refine cj_skip (hK32 _ _ _ (cj_seq fun K36 hK36 => cj_region ?_))
  have hsub := hve.sub (a := (x.g.base - m.index).toNat) (b := m.es.length) (by omega) (by omega)
  rw [List.take_of_length_le (by simp)] at hsub
  have hA1 := addP_rest (x := x) (m := m) (fun h => f2 h.2) (fun h => h.1 f1)
  rw [show x.cutM m = (x.g.base, m.es.drop (x.g.base - m.index).toNat) by unfold ND.cutM; rw [if_pos f1]] at hA1
  refine Pm ?_
  refine Pm ?_
  refine Pa ((y_slice_sl (l := (x.g.base - m.index).toNat) (h := m.es.length) Tryz.underlying32 Tryz.sizeOf60 rfl ⟨.u64, by rw [show (((x.g.base - m.index).toNat : Nat) : Int) = x.g.base - m.index by omega]; rfl⟩ rfl (by omega))) ?_
  refine Ps ?_
  refine rj_nil (hK36 _ _ _ (cj_region ?_))
  refine Pa (Ga Tryz.underlying37 Tryz.sizeOf34) ?_
  refine Pa (Ga Tryz.underlying34 Tryz.sizeOf31) ?_
  first | refine Pa (La o31) ?_ | refine Pa (Ls o31) ?_
  refine Ps ?_
  refine rj_nil ?_
  refine ej_join hJ15 ((x.g.base, m.es.drop (x.g.base - m.index).toNat, _)) (⟨by unfold ND.cutM; rw [if_pos f1], hsub, hA1, Int.le_refl _, by dsimp only; omega⟩) (eC rfl (eC rfl (eC rfl (eC rfl (eC rfl eN))))) rfl sb_
  have f1 : ¬ m.index < x.g.base := by simpa using hc25
  refine cj_seq fun K37 hK37 => cj_region ?_
  refine Pa (Ga Tryz.underlying37 Tryz.sizeOf34) ?_
  refine Pa ((Lb (vs := rlC v.va x.g) m34)) ?_
  refine Pm ?_
  refine Pa (Ca Tryz.call88 ((rlTermAt_q v.va x.g hg hva m.index (by unfold u64B; omega)).eq2 (numV_eq _))) ?_
  refine Pm ?_
  refine Pa (y_extract rfl rfl) ?_
  refine Pa (y_extract rfl rfl) ?_
  refine Ps ?_
  refine Ps ?_
  refine rj_nil (hK37 _ _ _ (cj_seq fun K38 hK38 => cj_region ?_))
  refine Pm ?_
  refine Pa (y_not rfl) ?_
  refine Pm ?_
  refine rj_part 59 rfl (fun hg59 => ?_) (fun hg59 => ?_)
  have f3 : (x.g.termAt m.index).isSome = false := by simpa using hg59
  have f4 : ¬ x.g.termAt m.index = some m.logTerm := termAt_some.2 (.inl f3)
  have hE : x.addP m = x.answer m false (min x.g.last (max m.index 1 - 1)) := by unfold ND.addP; rw [if_neg (fun h => f1 h.1), if_pos ⟨f1, f4⟩]
  refine Pk ?_
  refine Pk ?_
  refine Pk ?_
  refine Pk ?_
  refine Pa (y_pick_t rfl rfl) ?_
  refine rj_nil (hK38 _ _ _ ?_)
  refine cj_env (eL 2 rfl (eL 3 rfl (eL 4 rfl (eL 6 rfl (eL 7 rfl (eL 64 rfl eN)))))) ?_
  refine cj_cond_t rfl (cj_seq fun K39 hK39 => cj_region ?_)
  refine Ps ?_
  refine rj_nil (hK39 _ _ _ (cj_seq fun K40 hK40 => ?_))
  have hJ14 : ∀ (x0 : Int), x.addP m = x.answer m false x0 → EJ ⟨Tryz.prog, 144, σ⟩ K40 [(2, .pointer (some ⟨b2, 0, none⟩)), (3, .pointer (some ⟨b3, 0, none⟩)), (4, .pointer (some ⟨b4, 0, none⟩)), (11, .int .u64 x0)] R (blk b2 (rnC v x) 37 :: blk b3 (msgC m (.slice qe m.es.length ce)) 48 :: blk b4 rn0 37 :: F) := by
    rintro h0 eh0
    try dsimp only
    refine hK40 _ _ _ (cj_seq fun K41 hK41 => ?_)
    refine cj_mixg (L := [blk b2 (rnC v x) 37, blk b3 (msgC m (.slice qe m.es.length ce)) 48]) [0, 1, 2, 3, 4] [5] [6, 7] _ sb_ (by kernel_rfl) (by kernel_rfl) (by kernel_rfl) rfl ?_
    refine Wa rfl (fun R1 hR1 G => (Lm (vs := rnC v x) m37)) ?_
    refine Wa rfl (fun R1 hR1 G => (Lm (vs := rnC v x) m37)) ?_
    refine Wa rfl (fun R1 hR1 G => (Ga Tryz.underlying48 Tryz.sizeOf3)) ?_
    first | refine Wa rfl (fun R1 hR1 G => (La o3)) ?_ | refine Wa rfl (fun R1 hR1 G => (Ls o3)) ?_
    refine Wa rfl (fun R1 hR1 G => (y_move rfl)) ?_
    refine fj_nil ?_
    refine xj_rj rfl ?_
    try simp only [cA, nA, List.append_nil]
    refine Ra Tryz.call80 (rappended_t v x m false h0 hv) ?_
    rintro r R8 L' hR8 ⟨hfx8, rfl⟩
    have hfo8 := hfx8.one
    try simp only [cA, nA]
    refine rj_xk le_ sb_ ?_
    refine xj_nil ?_
    try simp only [cA, nA, List.append_nil]
    refine Sm (vs := rnC v x) m37 hob ?_
    refine Ps ?_
    refine rj_nil (hK41 _ _ _ (cj_ret (hret _ _ _ ?_)))
    refine Ea Tryz.results83 (.cons (rv_cells m37 rfl fd_ rfl rfl) (.cons (rv_tmp rfl) .nil)) [] (by first | exact Hp.le_refl _ | assumption) ?_
    first|(rw [hE]; exact ⟨v, _, rfl, (hv.mono hR8).answer m true _, by rw [answer_out ho]; exact hfx8, rfl⟩)|(rw [eh0]; exact ⟨v, _, rfl, (hv.mono hR8).answer m false _, by rw [answer_out ho]; exact hfx8, rfl⟩)|(rw [hfs]; exact ⟨v, _, rfl, hv, by rw [ho]; exact FrX.nil, rfl⟩)|(rw [hF]; exact ⟨w, _, rfl, ((hyv.mono hR8).to (y := y.commits m (bh + l.length)) ⟨rfl, rfl, rfl, rfl, rfl⟩).answer m true _, by rw [answer_out (show (y.commits m (bh + l.length)).out = [] from hyo)]; exact hfx8, rfl⟩)
  refine cj_seq fun K42 hK42 => cj_region ?_
  refine Pm ?_
  refine Pa (y_gtr rfl rfl) ?_
  refine rj_nil (hK42 _ _ _ ?_)
  refine cj_cond rfl (fun hc66 => ?_) (fun hc66 => ?_)
  have g6 : m.index > 0 := by simpa using hc66
  refine cj_region ?_
  refine Pa (Ga Tryz.underlying37 Tryz.sizeOf34) ?_
  refine Pa ((Lb (vs := rlC v.va x.g) m34)) ?_
  refine Pa (Ca Tryz.call75 (rlLast_q v.va x.g hg hva)) ?_
  refine Pm ?_
  refine Pa ((y_subu rfl rfl (by omega))) ?_
  refine Pa (y_min rfl rfl) ?_
  refine Ps ?_
  refine rj_nil ?_
  refine ej_join hJ14 ((min x.g.last (m.index - 1))) (by rw [hE]; congr 1; omega) (eC rfl (eC rfl (eC rfl (eC rfl eN)))) rfl sb_
  have g6 : ¬ m.index > 0 := by simpa using hc66
  refine cj_skip ?_
  refine ej_join hJ14 (0) (by rw [hE]; congr 1; omega) (eC rfl (eC rfl (eC rfl (eC rfl eN)))) rfl sb_
  have f3 : (x.g.termAt m.index).isSome = true := by simpa using hg59
  refine Pb (y_move rfl) ?_
  refine Pb (Ga Tryz.underlying48 Tryz.sizeOf31) ?_
  first | refine Pb (La o31) ?_ | refine Pb (Ls o31) ?_
  refine Pb (y_neq rfl rfl) ?_
  refine Pa (y_pick_f rfl rfl) ?_
  refine rj_nil (hK38 _ _ _ ?_)
  refine cj_env (eL 2 rfl (eL 3 rfl (eL 4 rfl (eL 6 rfl (eL 7 rfl (eL 64 rfl eN)))))) ?_
  refine cj_cond rfl (fun hc64 => ?_) (fun hc64 => ?_)
  first|(have f4 : ¬ x.g.termAt m.index = some m.logTerm := termAt_some.2 (.inr (by simpa using hc64)); have hE : x.addP m = x.answer m false (min x.g.last (max m.index 1 - 1)) := by (unfold ND.addP; rw [if_neg (fun h => f1 h.1), if_pos ⟨f1, f4⟩]))|skip
  refine cj_seq fun K45 hK45 => cj_region ?_
  refine Ps ?_
  refine rj_nil (hK45 _ _ _ (cj_seq fun K46 hK46 => ?_))
  have hJ14 : ∀ (x0 : Int), x.addP m = x.answer m false x0 → EJ ⟨Tryz.prog, 144, σ⟩ K46 [(2, .pointer (some ⟨b2, 0, none⟩)), (3, .pointer (some ⟨b3, 0, none⟩)), (4, .pointer (some ⟨b4, 0, none⟩)), (11, .int .u64 x0)] R (blk b2 (rnC v x) 37 :: blk b3 (msgC m (.slice qe m.es.length ce)) 48 :: blk b4 rn0 37 :: F) := by
    rintro h0 eh0
    try dsimp only
    refine hK46 _ _ _ (cj_seq fun K47 hK47 => ?_)
    refine cj_mixg (L := [blk b2 (rnC v x) 37, blk b3 (msgC m (.slice qe m.es.length ce)) 48]) [0, 1, 2, 3, 4] [5] [6, 7] _ sb_ (by kernel_rfl) (by kernel_rfl) (by kernel_rfl) rfl ?_
    refine Wa rfl (fun R1 hR1 G => (Lm (vs := rnC v x) m37)) ?_
    refine Wa rfl (fun R1 hR1 G => (Lm (vs := rnC v x) m37)) ?_
    refine Wa rfl (fun R1 hR1 G => (Ga Tryz.underlying48 Tryz.sizeOf3)) ?_
    first | refine Wa rfl (fun R1 hR1 G => (La o3)) ?_ | refine Wa rfl (fun R1 hR1 G => (Ls o3)) ?_
    refine Wa rfl (fun R1 hR1 G => (y_move rfl)) ?_
    refine fj_nil ?_
    refine xj_rj rfl ?_
    try simp only [cA, nA, List.append_nil]
    refine Ra Tryz.call80 (rappended_t v x m false h0 hv) ?_
    rintro r R8 L' hR8 ⟨hfx8, rfl⟩
    have hfo8 := hfx8.one
    try simp only [cA, nA]
    refine rj_xk le_ sb_ ?_
    refine xj_nil ?_
    try simp only [cA, nA, List.append_nil]
    refine Sm (vs := rnC v x) m37 hob ?_
    refine Ps ?_
    refine rj_nil (hK47 _ _ _ (cj_ret (hret _ _ _ ?_)))
    refine Ea Tryz.results83 (.cons (rv_cells m37 rfl fd_ rfl rfl) (.cons (rv_tmp rfl) .nil)) [] (by first | exact Hp.le_refl _ | assumption) ?_
    first|(rw [hE]; exact ⟨v, _, rfl, (hv.mono hR8).answer m true _, by rw [answer_out ho]; exact hfx8, rfl⟩)|(rw [eh0]; exact ⟨v, _, rfl, (hv.mono hR8).answer m false _, by rw [answer_out ho]; exact hfx8, rfl⟩)|(rw [hfs]; exact ⟨v, _, rfl, hv, by rw [ho]; exact FrX.nil, rfl⟩)|(rw [hF]; exact ⟨w, _, rfl, ((hyv.mono hR8).to (y := y.commits m (bh + l.length)) ⟨rfl, rfl, rfl, rfl, rfl⟩).answer m true _, by rw [answer_out (show (y.commits m (bh + l.length)).out = [] from hyo)]; exact hfx8, rfl⟩)
  refine cj_seq fun K48 hK48 => cj_region ?_
  refine Pm ?_
  refine Pa (y_gtr rfl rfl) ?_
  refine rj_nil (hK48 _ _ _ ?_)
  refine cj_cond rfl (fun hc66 => ?_) (fun hc66 => ?_)
  have g6 : m.index > 0 := by simpa using hc66
  refine cj_region ?_
  refine Pa (Ga Tryz.underlying37 Tryz.sizeOf34) ?_
  refine Pa ((Lb (vs := rlC v.va x.g) m34)) ?_
  refine Pa (Ca Tryz.call75 (rlLast_q v.va x.g hg hva)) ?_
  refine Pm ?_
  refine Pa ((y_subu rfl rfl (by omega))) ?_
  refine Pa (y_min rfl rfl) ?_
  refine Ps ?_
  refine rj_nil ?_
  refine ej_join hJ14 ((min x.g.last (m.index - 1))) (by rw [hE]; congr 1; omega) (eC rfl (eC rfl (eC rfl (eC rfl eN)))) rfl sb_
  have g6 : ¬ m.index > 0 := by simpa using hc66
  refine cj_skip ?_
  refine ej_join hJ14 (0) (by rw [hE]; congr 1; omega) (eC rfl (eC rfl (eC rfl (eC rfl eN)))) rfl sb_
  have f4 : ¬ ¬ x.g.termAt m.index = some m.logTerm := fun h => by (rcases termAt_some.1 h with h | h <;> first | (rw [f3] at h; cases h; done) | (simp at hc64; exact h hc64))
  have hA2 := addP_rest (x := x) (m := m) (fun h => f1 h.1) (fun h => f4 h.2)
  rw [show x.cutM m = (m.index, m.es) by unfold ND.cutM; rw [if_neg f1]] at hA2
  have f5 := termAt_last (g := x.g) (i := m.index) (t := m.logTerm) (by (by_cases h : x.g.termAt m.index = some m.logTerm; exact h; exact absurd h f4))
  refine cj_skip ?_
  refine ej_join hJ15 ((m.index, m.es, _)) (⟨by unfold ND.cutM; rw [if_neg f1], hve, hA2, f5⟩) (eC rfl (eC rfl (eC rfl (eC rfl (eC rfl eN))))) rfl sb_
end V
end Go.Proofs.YtjdbigplednihaaGreat
set_option linter.unusedSimpArgs false
set_option linter.unusedVariables false
set_option maxRecDepth 100000
namespace Go.Proofs.YtjdbigplednihaaGreat
open Go.RowKit
namespace V
set_option maxHeartbeats 4000000
section
variable {c : Cx} {E : Env} {R : Hp} {L : List Asn} {d : Option Tmp} {ty : TypeId} {p : String} {af : Array Edge} {g : Option (Nat × Bool)}
theorem y_max3 {x y z : Operand} {ts : Array TypeId} {k : IntKind} {m n o : Int} (e1 : ev E x = some (.int k m)) (e2 : ev E y = some (.int k n)) (e3 : ev E z = some (.int k o)) :
    Yld c E R L ⟨d, .call { callee := .builtin .max, args := #[x, y, z], argTypes := ts }, ty, p, af, g⟩ (.int k (max (max m n) o)) := fun _ w hf _ => by
  have r : (Builtin.max_ ts ty #[.int k m, .int k n, .int k o]).run c.P w = .ok (.int k (max (max m n) o)) w := by
    simp [Builtin.max_, Builtin.max2]; omega
  simp [execOp, resolve, invoke, builtin, hf.ev e1, hf.ev e2, hf.ev e3, r, Oper.quietUpon]
end
theorem u64Els {R : Hp} {l : List Int} {css : List (List Value)} (h : Els u64E R l css) : css.flatten = u64V l := by
  rw [u64V_flat]
  congr 1
  apply List.ext_getElem?
  intro i
  rw [List.getElem?_map]
  by_cases hi : i < l.length
  · have h1 := List.getElem?_eq_getElem hi
    have h2 := List.getElem?_eq_getElem (l := css) (i := i) (by rw [h.1]; exact hi)
    have h3 := h.2 i _ _ h1 h2
    rw [h1, h2, Option.map_some]
    exact congrArg some h3
  · rw [List.getElem?_eq_none (by rw [h.1]; omega), List.getElem?_eq_none (by omega)]; rfl
theorem u64V_nth (l : List Int) (k : Nat) (z : Int) (hz : z = k) (hk : k < l.length) : nth (u64V l) (z.toNat * 1) = some (.int .u64 (l.getD k 0)) := by
  subst hz
  rw [nth_eq]
  unfold u64V
  simp [List.getElem?_eq_getElem hk, List.getD_eq_getElem?_getD]
theorem u64V_set (l : List Int) (k : Nat) (z x : Int) (hz : z = k) : setNth (u64V l) (z.toNat * 1) (.int .u64 x) = u64V (l.set k x) := by
  subst hz
  rw [setNth_eq]
  unfold u64V
  simp [List.map_set]
theorem u64V_len (l : List Int) : (u64V l).length = l.length := by unfold u64V; simp
theorem setPeer_fst (x : ND) (to : Nat) (p : Int × Int) : (x.setPeer to p).peers.map (·.1) = (x.peers.map (·.1)).set to p.1 := by unfold ND.setPeer; simp [List.map_set]
theorem setPeer_snd (x : ND) (to : Nat) (p : Int × Int) : (x.setPeer to p).peers.map (·.2) = (x.peers.map (·.2)).set to p.2 := by unfold ND.setPeer; simp [List.map_set]
theorem set_same {α : Type} (l : List α) (i : Nat) (d : α) (h : i < l.length) : l.set i (l.getD i d) = l := by
  apply List.ext_getElem?
  intro j
  rw [List.getElem?_set]
  by_cases hj : i = j
  · subst hj; rw [if_pos rfl, if_pos h, List.getD_eq_getElem?_getD, List.getElem?_eq_getElem h]; simp
  · rw [if_neg hj]
theorem feed_out {y : ND} (h : y.out = []) (to : Nat) : (y.feed to).out = [y.stamp (y.feedMsg to)] := by
  unfold ND.feed ND.send; rw [h]; rfl
theorem RNOk.feed {R : Hp} {v : RW} {y : ND} (h : RNOk R v y) (to : Nat) : RNOk R v (y.feed to) := h.to ⟨rfl, rfl, rfl, rfl, rfl⟩
theorem rheard_t {R : Hp} (v : RW) (x : ND) (m : Msg) (ve : Value) {T I : Int} {A : Nat} (hx : LIn T I A x) (hB : BB T I A) (ho : x.out = []) (hv : RNOk R v x) (hm : MLn T I m) (hf : 0 ≤ m.frm ∧ m.frm < x.n) (hve : FrX entE R m.es ve) :
    Tri Tryz.prog 84 [.agg ⟨rnC v x⟩, .agg ⟨msgC m ve⟩] R [] (RP (x.heardP m)) := by
  have hx0 := hx.nin0 hB ho
  have hg := hx0.g (by omega)
  have hlb := LG.last_b hg
  have hva := hv.va
  have hvvo := hv.vv
  have hveo := hve.one
  have hidx := hm.index
  have hcb := hx.commit
  have hbs := hx.base
  have hla := hx.last
  have hob := rnC_one hv
  have hidn := hx.idn
  have hBu := hB
  unfold BB at hBu
  obtain ⟨to, hto⟩ : ∃ to, to = m.frm.toNat := ⟨_, rfl⟩
  have hfto : m.frm = (to : Int) := by omega
  have hton : to < x.n := by omega
  obtain ⟨k1, hk1⟩ : ∃ k1, k1 = max (x.mat to) (min m.index x.g.last) := ⟨_, rfl⟩
  obtain ⟨q1, hq1⟩ : ∃ q1, q1 = max (min (x.nxt to - 1) (m.index + 1)) (x.mat to + 1) := ⟨_, rfl⟩
  have hN : x.heardP m = if ¬ x.role = 2 ∨ ¬ m.term = x.g.term then x else if m.ok = false then (x.setPeer to (q1, x.mat to)).feed to else if k1 + 1 ≤ (x.setPeer to (k1 + 1, k1)).count.g.last then (x.setPeer to (k1 + 1, k1)).count.feed to else (x.setPeer to (k1 + 1, k1)).count := by
    unfold ND.heardP heardN
    rw [hk1, hq1, hto]
    dsimp only
    split
    · rfl
    · split
      · rfl
      · split <;> rfl
  refine tri_of Tryz.func84 rfl Tryz.ntmps84 rfl (fun σ F Q hret hend hpan => ?_)
  try simp only [cA, nA]
  refine cj_seq fun K1 hK1 => cj_region ?_
  refine rj_box (wn0 rfl) rfl rfl rfl (fun b2 => ?_)
  refine rj_box (wn0 rfl) rfl rfl rfl (fun b3 => ?_)
  refine rj_alloc (wn0 rfl) rfl Tryz.zeroValue37 rfl (fun b4 => ?_)
  refine Ps ?_
  refine rj_nil (hK1 _ _ _ (cj_seq fun K2 hK2 => cj_seq fun K3 hK3 => cj_region ?_))
  refine Pa (Ga Tryz.underlying37 Tryz.sizeOf3) ?_
  first | refine Pa (La o3) ?_ | refine Pa (Ls o3) ?_
  refine Pa (y_neq rfl rfl) ?_
  refine Pm ?_
  refine rj_part 9 rfl (fun hg9 => ?_) (fun hg9 => ?_)
  have f0 : ¬ x.role = 2 ∨ ¬ m.term = x.g.term := .inl (by simpa using hg9)
  refine Pk ?_
  refine Pk ?_
  refine Pk ?_
  refine Pk ?_
  refine Pk ?_
  refine Pk ?_
  refine Pa (y_pick_t rfl rfl) ?_
  refine rj_nil (hK3 _ _ _ (cj_cond_t rfl (cj_seq fun K4 hK4 => cj_region ?_)))
  refine Pa ((Lm (vs := rnC v x) m37)) ?_
  refine Sm (vs := rnC v x) m37 hob ?_
  refine Ps ?_
  refine rj_nil (hK4 _ _ _ (cj_ret (hret _ _ _ ?_)))
  refine Ea Tryz.results84 (.cons (rv_cells m37 rfl fd_ rfl rfl) (.cons (rv_tmp rfl) .nil)) [] (by first | exact Hp.le_refl _ | exact Hp.le_trans hR34 (Hp.le_trans hR7 (Hp.le_trans hR8 hR9)) | exact Hp.le_trans hR34 hR7 | exact Hp.le_trans hR34 (Hp.le_trans hR8 hR9)) ?_
  first|(rw [hN, if_pos f0]; exact ⟨v, _, rfl, hv, by rw [ho]; exact FrX.nil, rfl⟩)|(rw [hN]; exact ⟨w, _, rfl, (hycv.mono (Hp.le_trans hR8 hR9)).feed to, by rw [feed_out hyco]; exact hfx9, rfl⟩)|(rw [hN]; exact ⟨w, _, rfl, hycv, by rw [hyco]; exact FrX.nil, rfl⟩)|(rw [hN]; exact ⟨w, _, rfl, (hyv.mono (Hp.le_trans hR8 hR9)).feed to, by rw [feed_out hyo]; exact hfx9, rfl⟩)
  have f1 : x.role = 2 := by simpa using hg9
  refine Pb (Ga Tryz.underlying48 Tryz.sizeOf31) ?_
  first | refine Pb (La o31) ?_ | refine Pb (Ls o31) ?_
  refine Pb (Ga Tryz.underlying37 Tryz.sizeOf34) ?_
  refine Pb (Ga Tryz.underlying34 Tryz.sizeOf31) ?_
  first | refine Pb (La o31) ?_ | refine Pb (Ls o31) ?_
  refine Pb (y_neq rfl rfl) ?_
  refine Pa (y_pick_f rfl rfl) ?_
  refine rj_nil (hK3 _ _ _ ?_)
  refine cj_env (eL 2 rfl (eL 3 rfl (eL 4 rfl (eL 16 rfl eN)))) ?_
  refine cj_cond rfl (fun hc16 => ?_) (fun hc16 => ?_)
  first|(have f0 : ¬ x.role = 2 ∨ ¬ m.term = x.g.term := .inr (by simpa using hc16))|skip
  refine cj_seq fun K6 hK6 => cj_region ?_
  refine Pa ((Lm (vs := rnC v x) m37)) ?_
  refine Sm (vs := rnC v x) m37 hob ?_
  refine Ps ?_
  refine rj_nil (hK6 _ _ _ (cj_ret (hret _ _ _ ?_)))
  refine Ea Tryz.results84 (.cons (rv_cells m37 rfl fd_ rfl rfl) (.cons (rv_tmp rfl) .nil)) [] (by first | exact Hp.le_refl _ | exact Hp.le_trans hR34 (Hp.le_trans hR7 (Hp.le_trans hR8 hR9)) | exact Hp.le_trans hR34 hR7 | exact Hp.le_trans hR34 (Hp.le_trans hR8 hR9)) ?_
  first|(rw [hN, if_pos f0]; exact ⟨v, _, rfl, hv, by rw [ho]; exact FrX.nil, rfl⟩)|(rw [hN]; exact ⟨w, _, rfl, (hycv.mono (Hp.le_trans hR8 hR9)).feed to, by rw [feed_out hyco]; exact hfx9, rfl⟩)|(rw [hN]; exact ⟨w, _, rfl, hycv, by rw [hyco]; exact FrX.nil, rfl⟩)|(rw [hN]; exact ⟨w, _, rfl, (hyv.mono (Hp.le_trans hR8 hR9)).feed to, by rw [feed_out hyo]; exact hfx9, rfl⟩)
  have f2 : m.term = x.g.term := by simpa using hc16
  have f0 : ¬ (¬ x.role = 2 ∨ ¬ m.term = x.g.term) := by simp [f1, f2]
  have hpl := hx.peers f1
  have htl : to < x.peers.length := by omega
  have htl1 : to < (x.peers.map (·.1)).length := by simpa using htl
  have htl2 : to < (x.peers.map (·.2)).length := by simpa using htl
  have hmem : x.peers.getD to (0, 0) ∈ x.peers := by rw [List.getD_eq_getElem?_getD, List.getElem?_eq_getElem htl]; simp
  have hp0 := hx.peer _ hmem
  have hp1 : (1 ≤ x.nxt to ∧ x.nxt to ≤ I + 1) ∧ (0 ≤ x.mat to ∧ x.mat to ≤ I) := hp0
  have hp2 := hx.peerb f1 to
  rw [if_neg f0] at hN
  obtain ⟨cssN, heN, frN⟩ := hv.next f1
  obtain ⟨cssM, heM, frM⟩ := hv.mat f1
  have hfN := u64Els heN
  have hfM := u64Els heM
  rw [hfN] at frN
  rw [hfM] at frM
  rw [List.length_map] at frN frM
  have hml1 : (x.peers.map (·.1)).length = x.peers.length := List.length_map _
  have hml2 : (x.peers.map (·.2)).length = x.peers.length := List.length_map _
  have hNl := u64V_len (x.peers.map (·.1))
  have hMl := u64V_len (x.peers.map (·.2))
  rw [List.length_map] at hNl hMl
  refine cj_skip (hK2 _ _ _ (cj_seq fun K7 hK7 => cj_region ?_))
  refine rj_buildSlice (sz := 1) (wn0 rfl) rfl Tryz.underlying35 Tryz.sizeOf31 Tryz.zeroValue31 rfl rfl rfl (by decide) (by decide) (fun bA => ?_)
  refine rj_turn (A := slc 31 1 (.slice (some ⟨bA, 0, none⟩) 0 0) 0 _) (B := slc 31 1 (.slice (some ⟨bA, 0, none⟩) 0 0) 0 (u64V [])) fd_ (fun h hh => hh) ?_
  refine Pa (Ga Tryz.underlying37 Tryz.sizeOf35) ?_
  first | refine Pa (La o35) ?_ | refine Pa (Ls o35) ?_
  refine rj_append (sz := 1) (by_ := 8) ⟨Tryz.underlying35, _, _, rfl, rfl, rfl, rfl, rfl⟩ (wn0 rfl) rfl rfl rfl fd_ ((FrX.src (T := u64E) Tryz.underlying35 (l := x.peers.map (·.1)) (css := cssN) heN (by rw [hfN, List.length_map]; exact frN))) rfl om_ (by simp only [maxLen]; omega) (fun v21 ho21 hh21 => ?_)
  rw [hfN, List.length_map, show u64V [] ++ u64V (x.peers.map (·.1)) = u64V (x.peers.map (·.1)) from rfl, show 0 + x.peers.length = x.peers.length from Nat.zero_add _]
  refine Pa (Ga Tryz.underlying37 Tryz.sizeOf35) ?_
  refine Sa o35 ?_
  refine rj_nil (hK7 _ _ _ (cj_seq fun K8 hK8 => cj_region ?_))
  refine rj_buildSlice (sz := 1) (wn0 rfl) rfl Tryz.underlying35 Tryz.sizeOf31 Tryz.zeroValue31 rfl rfl rfl (by decide) (by decide) (fun bC => ?_)
  refine rj_turn (A := slc 31 1 (.slice (some ⟨bC, 0, none⟩) 0 0) 0 _) (B := slc 31 1 (.slice (some ⟨bC, 0, none⟩) 0 0) 0 (u64V [])) fd_ (fun h hh => hh) ?_
  refine Pa (Ga Tryz.underlying37 Tryz.sizeOf35) ?_
  first | refine Pa (La o35) ?_ | refine Pa (Ls o35) ?_
  refine rj_append (sz := 1) (by_ := 8) ⟨Tryz.underlying35, _, _, rfl, rfl, rfl, rfl, rfl⟩ (wn0 rfl) rfl rfl rfl fd_ ((FrX.src (T := u64E) Tryz.underlying35 (l := x.peers.map (·.2)) (css := cssM) heM (by rw [hfM, List.length_map]; exact frM))) rfl om_ (by simp only [maxLen]; omega) (fun v26 ho26 hh26 => ?_)
  rw [hfM, List.length_map, show u64V [] ++ u64V (x.peers.map (·.2)) = u64V (x.peers.map (·.2)) from rfl, show 0 + x.peers.length = x.peers.length from Nat.zero_add _]
  refine Pa (Ga Tryz.underlying37 Tryz.sizeOf35) ?_
  refine Sa o35 ?_
  refine rj_nil (hK8 _ _ _ (cj_seq fun K9 hK9 => cj_seq fun K10 hK10 => ?_))
  refine cj_turnA (A := blk b2 _ 37) (B := blk b2 (rnC { v with vn := v21, vm := v26 } x) 37) fd_ (fun h hh => hh) ?_
  refine cj_region ?_
  refine Pa (Ga Tryz.underlying48 Tryz.sizeOf4) ?_
  first | refine Pa (La o4) ?_ | refine Pa (Ls o4) ?_
  refine rj_nil (hK10 _ _ _ ?_)
  refine cj_cond rfl (fun hc29 => ?_) (fun hc29 => ?_)
  have f3 : ¬ m.ok = false := by simpa using hc29
  rw [if_neg f3] at hN
  obtain ⟨y, hy⟩ : ∃ y, y = x.setPeer to (k1 + 1, k1) := ⟨_, rfl⟩
  rw [← hy] at hN
  have hyin : LIn T I A y := by rw [hy]; exact (hx.setPeer to (p := (k1 + 1, k1)) (by dsimp only; omega)).inn
  have hyo : y.out = [] := by rw [hy]; exact ho
  have hyn : NIn 0 y := hyin.nin0 hB hyo
  have hyr : y.role = 2 := by rw [hy]; exact f1
  have hyl : y.peers.length = x.peers.length := by rw [hy]; exact List.length_set
  have hyc := LIn.count hyin hyr
  have hyco : y.count.out = [] := by rw [(count_out y).1]; exact hyo
  have hycn : NIn 0 y.count := hyc.inn.nin0 hB hyco
  have hycr : y.count.role = 2 := by rw [(count_out y).2.2.1]; exact hyr
  have hycp : y.count.peers = y.peers := (count_out y).2.2.2.1
  have hycN : y.count.n = x.n := by rw [(count_out y).2.2.2.2.1, hy]; rfl
  have hycg : y.count.g = x.g := by rw [(count_out y).2.1, hy]; rfl
  rw [hycg] at hN
  refine cj_seq fun K12 hK12 => ?_
  refine cj_mixg (L := [blk b2 (rnC { v with vn := v21, vm := v26 } x) 37, blk b3 (msgC m ve) 48, slc 31 1 v26 x.peers.length (u64V (x.peers.map (·.2)))]) [0, 1, 2, 3, 4, 5, 6, 7, 8, 9, 10, 11, 12, 13, 14, 15, 16, 17] [] [18] _ sb_ (by kernel_rfl) (by kernel_rfl) (by kernel_rfl) rfl ?_
  refine Wa rfl (fun R1 hR1 G => (Ga Tryz.underlying37 Tryz.sizeOf35)) ?_
  first | refine Wa rfl (fun R1 hR1 G => (La o35)) ?_ | refine Wa rfl (fun R1 hR1 G => (Ls o35)) ?_
  refine Wa rfl (fun R1 hR1 G => (Ga Tryz.underlying48 Tryz.sizeOf3)) ?_
  first | refine Wa rfl (fun R1 hR1 G => (La o3)) ?_ | refine Wa rfl (fun R1 hR1 G => (Ls o3)) ?_
  refine Wa rfl (fun R1 hR1 G => (Ga Tryz.underlying37 Tryz.sizeOf35)) ?_
  first | refine Wa rfl (fun R1 hR1 G => (La o35)) ?_ | refine Wa rfl (fun R1 hR1 G => (Ls o35)) ?_
  refine Wa rfl (fun R1 hR1 G => (Ga Tryz.underlying48 Tryz.sizeOf3)) ?_
  first | refine Wa rfl (fun R1 hR1 G => (La o3)) ?_ | refine Wa rfl (fun R1 hR1 G => (Ls o3)) ?_
  refine Wa rfl (fun R1 hR1 G => (y_index_slc Tryz.underlying35 Tryz.sizeOf31 rfl rfl fd_ (by omega))) ?_
  refine Wa rfl (fun R1 hR1 G => (y_load_slc o31 rfl fd_ (by rw [u64V_nth _ to m.frm hfto htl2, mat_map]))) ?_
  refine Wa rfl (fun R1 hR1 G => (Ga Tryz.underlying48 Tryz.sizeOf31)) ?_
  first | refine Wa rfl (fun R1 hR1 G => (La o31)) ?_ | refine Wa rfl (fun R1 hR1 G => (Ls o31)) ?_
  refine Wa rfl (fun R1 hR1 G => (Ga Tryz.underlying37 Tryz.sizeOf34)) ?_
  refine Wa rfl (fun R1 hR1 G => (Lb (vs := rlC v.va x.g) m34)) ?_
  refine Wa rfl (fun R1 hR1 G => (Ca Tryz.call75 (rlLast_q v.va x.g hg (by first|exact hva.mono hR1|exact hva)))) ?_
  refine Wa rfl (fun R1 hR1 G => (y_min rfl rfl)) ?_
  refine Wa rfl (fun R1 hR1 G => (Yld.to (u := .int .u64 k1) (y_max rfl rfl) (by rw [hk1]))) ?_
  refine Wa rfl (fun R1 hR1 G => (y_index_slc Tryz.underlying35 Tryz.sizeOf31 rfl rfl fd_ (by omega))) ?_
  refine fj_nil ?_
  refine xj_nil ?_
  try simp only [cA, nA, List.append_nil]
  refine rj_store_slc (ys := u64V ((x.peers.map (·.2)).set to k1)) o31 (wn0 rfl) rfl rfl rfl fd_ (by omega) (by rw [u64V_set _ to m.frm _ hfto]) (by omega) ?_
  refine rj_nil (hK12 _ _ _ ?_)
  refine cj_env (eL 2 rfl (eL 3 rfl (eL 4 rfl eN))) ?_
  refine cj_seq fun K13 hK13 => ?_
  refine cj_mixg (L := [blk b2 (rnC { v with vn := v21, vm := v26 } x) 37, blk b3 (msgC m ve) 48, slc 31 1 v26 x.peers.length (u64V ((x.peers.map (·.2)).set to k1)), slc 31 1 v21 x.peers.length (u64V (x.peers.map (·.1)))]) [0, 1, 2, 3, 4, 5, 6, 7, 8, 9, 10, 11] [] [12] _ sb_ (by kernel_rfl) (by kernel_rfl) (by kernel_rfl) rfl ?_
  refine Wa rfl (fun R1 hR1 G => (Ga Tryz.underlying37 Tryz.sizeOf35)) ?_
  first | refine Wa rfl (fun R1 hR1 G => (La o35)) ?_ | refine Wa rfl (fun R1 hR1 G => (Ls o35)) ?_
  refine Wa rfl (fun R1 hR1 G => (Ga Tryz.underlying48 Tryz.sizeOf3)) ?_
  first | refine Wa rfl (fun R1 hR1 G => (La o3)) ?_ | refine Wa rfl (fun R1 hR1 G => (Ls o3)) ?_
  refine Wa rfl (fun R1 hR1 G => (Ga Tryz.underlying37 Tryz.sizeOf35)) ?_
  first | refine Wa rfl (fun R1 hR1 G => (La o35)) ?_ | refine Wa rfl (fun R1 hR1 G => (Ls o35)) ?_
  refine Wa rfl (fun R1 hR1 G => (Ga Tryz.underlying48 Tryz.sizeOf3)) ?_
  first | refine Wa rfl (fun R1 hR1 G => (La o3)) ?_ | refine Wa rfl (fun R1 hR1 G => (Ls o3)) ?_
  refine Wa rfl (fun R1 hR1 G => (y_index_slc Tryz.underlying35 Tryz.sizeOf31 rfl rfl fd_ (by omega))) ?_
  refine Wa rfl (fun R1 hR1 G => (y_load_slc o31 rfl fd_ (show nth (u64V ((x.peers.map (·.2)).set to k1)) (m.frm.toNat * 1) = some (.int .u64 k1) by rw [u64V_nth _ to m.frm hfto (by simpa using htl), List.getD_eq_getElem?_getD, List.getElem?_set, if_pos rfl, if_pos htl2]; rfl))) ?_
  refine Wa rfl (fun R1 hR1 G => (y_addu rfl rfl (by omega))) ?_
  refine Wa rfl (fun R1 hR1 G => (y_index_slc Tryz.underlying35 Tryz.sizeOf31 rfl rfl fd_ (by omega))) ?_
  refine fj_nil ?_
  refine xj_nil ?_
  try simp only [cA, nA, List.append_nil]
  refine rj_store_slc (ys := u64V ((x.peers.map (·.1)).set to (k1 + 1))) o31 (wn0 rfl) rfl rfl rfl fd_ (by omega) (by rw [u64V_set _ to m.frm _ hfto]) (by omega) ?_
  refine rj_nil (hK13 _ _ _ (cj_seq fun K14 hK14 => ?_))
  refine cj_freeze (e := 31) (sz := 1) (n := x.peers.length) (v := v21) (xs := u64V ((x.peers.map (·.1)).set to (k1 + 1))) fd_ (fun R3 hR3 hfr3 hxl3 => ?_)
  refine cj_freeze (e := 31) (sz := 1) (n := x.peers.length) (v := v26) (xs := u64V ((x.peers.map (·.2)).set to k1)) fd_ (fun R4 hR4 hfr4 hxl4 => ?_)
  have hR34 := Hp.le_trans hR3 hR4
  have hyNx : FrX u64E R4 ((x.peers.map (·.1)).set to (k1 + 1)) v21 := (u64Fr (by simpa using hfr3)).mono hR4
  obtain ⟨w, hw⟩ : ∃ w : RW, w = { v with vn := v21, vm := v26 } := ⟨_, rfl⟩
  have hwn : w.vn = v21 := by rw [hw]
  have hyv : RNOk R4 w y := by rw [hw, hy]; exact ⟨hva.mono hR34, hvvo, by assumption, by assumption, fun h => by have h2 : x.role = 1 := h; omega, fun _ => by rw [setPeer_fst]; exact hyNx, fun _ => by rw [setPeer_snd]; exact u64Fr (by simpa using hfr4)⟩
  refine cj_turnA (A := blk b2 _ 37) (B := blk b2 (rnC w y) 37) fd_ (fun h hh => by rw [hw, hy]; exact hh) ?_
  have hyvo := rnC_one hyv
  refine cj_region ?_
  refine Pa ((Lm (vs := rnC w y) m37)) ?_
  refine Ra Tryz.call86 (rcount_t w y 0 (by omega) hyn hyv hyr (hyin.pl hyr)) ?_
  rintro r R7 L' hR7 ⟨rfl, rfl⟩
  have hycv : RNOk R7 w y.count := (hyv.mono hR7).count
  have hycvo := rnC_one hycv
  obtain ⟨bn, on, cn, hvn, hnc⟩ := u64_at (hyNx.mono hR7) (i := to) (by simpa using htl)
  rw [List.length_set, List.length_map] at hvn
  rw [← hwn] at hvn
  rw [List.getD_eq_getElem?_getD, List.getElem?_set, if_pos rfl, if_pos htl1, Option.getD_some] at hnc
  have hwva7 : FrX entE R7 x.g.all w.va := by have := hycv.va; rw [hycg] at this; exact this
  try simp only [cA, nA]
  refine Sm (vs := rnC w y.count) m37 hycvo ?_
  refine rj_nil (hK14 _ _ _ (cj_seq fun K15 hK15 => cj_seq fun K16 hK16 => ?_))
  refine cj_draw (by kernel_rfl) (by kernel_rfl) ?_
  refine Qa (Ga Tryz.underlying37 Tryz.sizeOf35) ?_
  refine Qa ((Yld.to (u := .slice (some ⟨bn, on, none⟩) x.peers.length cn) (La o35) hvn)) ?_
  refine Qa (Ga Tryz.underlying48 Tryz.sizeOf3) ?_
  first | refine Qa (La o3) ?_ | refine Qa (Ls o3) ?_
  refine Qa ((y_indexAddr Tryz.underlying35 Tryz.sizeOf31 rfl rfl (by omega))) ?_
  refine Qa ((y_load_ro o31 rfl (by rw [← hto]; first|exact cell_mono hR1 hnc|exact hnc))) ?_
  refine Qa (Ga Tryz.underlying37 Tryz.sizeOf34) ?_
  refine Qa ((y_loads_blk (vs := rlC w.va x.g) m34 rfl fd_ (by unfold rnC rlC; rw [hycg]; rfl) rfl)) ?_
  refine Qa (Ca Tryz.call75 (rlLast_q w.va x.g hg (by first|exact hwva7.mono hR1|exact hwva7))) ?_
  refine Qa (y_leq rfl rfl) ?_
  refine qj_nil ?_
  refine hK16 _ _ _ ?_
  refine cj_env (eL 2 rfl (eL 3 rfl (eL 4 rfl (eL 71 rfl eN)))) ?_
  refine cj_cond rfl (fun hc71 => ?_) (fun hc71 => ?_)
  have g1 : k1 + 1 ≤ x.g.last := by simpa using hc71
  rw [if_pos g1] at hN
  refine cj_seq fun K18 hK18 => ?_
  refine cj_mixs (L := [blk b2 (rnC w y.count) 37, blk b3 (msgC m ve) 48]) [0, 1, 2, 3] [4, 5, 6] [7] _ noX_ok sb_ (by kernel_rfl) (by kernel_rfl) (by kernel_rfl) rfl ?_
  refine Wa rfl (fun R1 hR1 G => (Lm (vs := rnC w y.count) m37)) ?_
  refine Wa rfl (fun R1 hR1 G => (Lm (vs := rnC w y.count) m37)) ?_
  refine Wa rfl (fun R1 hR1 G => (Ga Tryz.underlying48 Tryz.sizeOf3)) ?_
  refine Wa rfl (fun R1 hR1 G => (Yld.to (u := .int .i64 (to : Int)) (La o3) (by rw [hfto]))) ?_
  refine fj_nil ?_
  refine xs_all [4] (by kernel_rfl) ⟨?_, trivial⟩
  refine yj_rj rfl ?_
  try simp only [cA, nA, List.append_nil]
  refine Ra Tryz.call103 (rfeed_t w y.count 0 (by omega) hycn hycv hycr to (by rw [hycN]; exact hton)) ?_
  rintro r R8 L' hR8 ⟨⟨ve8, rfl, hve8⟩, rfl⟩
  have hve8o := hve8.one
  try simp only [cA, nA]
  refine rj_yk le_ sb_ ?_
  refine xs_all [5, 6] (by kernel_rfl) ⟨?_, ?_, trivial⟩
  refine yj_rj rfl ?_
  try simp only [cA, nA, List.append_nil]
  refine rj_buildSlice (sz := 10) (wn0 rfl) rfl Tryz.underlying28 Tryz.sizeOf48 Tryz.zeroValue48 rfl rfl rfl (by decide) (by decide) (fun b77 => ?_)
  refine rj_freeze (e := 48) (sz := 10) (n := 1) (v := .slice (some ⟨b77, 0, none⟩) 1 1) (xs := [msgC (y.count.stamp (y.count.feedMsg to)) ve8].flatten) fd_ (fun R9 hR9 hfr9 hxl9 => ?_)
  have hfx9 : FrX msgE R9 [y.count.stamp (y.count.feedMsg to)] (.slice (some ⟨b77, 0, none⟩) 1 1) := FrozenS.frx (l := [y.count.stamp (y.count.feedMsg to)]) hfr9 (Els.single (T := msgE) (y := y.count.stamp (y.count.feedMsg to)) ⟨ve8, rfl, hve8.mono hR9⟩)
  refine rj_yk le_ sb_ ?_
  refine xs_all [6] (by kernel_rfl) ⟨?_, trivial⟩
  refine yj_rj rfl ?_
  try simp only [cA, nA, List.append_nil]
  refine Sm (vs := rnC w y.count) m37 hycvo ?_
  refine rj_yk le_ sb_ ?_
  refine xs_nil ?_
  try simp only [cA, nA, List.append_nil]
  refine Ps ?_
  refine rj_nil (hK18 _ _ _ (cj_ret (hret _ _ _ ?_)))
  refine Ea Tryz.results84 (.cons (rv_cells m37 rfl fd_ rfl rfl) (.cons (rv_tmp rfl) .nil)) [] (by first | exact Hp.le_refl _ | exact Hp.le_trans hR34 (Hp.le_trans hR7 (Hp.le_trans hR8 hR9)) | exact Hp.le_trans hR34 hR7 | exact Hp.le_trans hR34 (Hp.le_trans hR8 hR9)) ?_
  first|(rw [hN, if_pos f0]; exact ⟨v, _, rfl, hv, by rw [ho]; exact FrX.nil, rfl⟩)|(rw [hN]; exact ⟨w, _, rfl, (hycv.mono (Hp.le_trans hR8 hR9)).feed to, by rw [feed_out hyco]; exact hfx9, rfl⟩)|(rw [hN]; exact ⟨w, _, rfl, hycv, by rw [hyco]; exact FrX.nil, rfl⟩)|(rw [hN]; exact ⟨w, _, rfl, (hyv.mono (Hp.le_trans hR8 hR9)).feed to, by rw [feed_out hyo]; exact hfx9, rfl⟩)
  refine yj_rj rfl ?_
  try simp only [cA, nA, List.append_nil]
  refine Sm (vs := rnC w y.count) m37 hycvo ?_
  refine rj_yk le_ sb_ ?_
  refine xs_all [5] (by kernel_rfl) ⟨?_, trivial⟩
  refine yj_rj rfl ?_
  try simp only [cA, nA, List.append_nil]
  refine rj_buildSlice (sz := 10) (wn0 rfl) rfl Tryz.underlying28 Tryz.sizeOf48 Tryz.zeroValue48 rfl rfl rfl (by decide) (by decide) (fun b77 => ?_)
  refine rj_freeze (e := 48) (sz := 10) (n := 1) (v := .slice (some ⟨b77, 0, none⟩) 1 1) (xs := [msgC (y.count.stamp (y.count.feedMsg to)) ve8].flatten) fd_ (fun R9 hR9 hfr9 hxl9 => ?_)
  have hfx9 : FrX msgE R9 [y.count.stamp (y.count.feedMsg to)] (.slice (some ⟨b77, 0, none⟩) 1 1) := FrozenS.frx (l := [y.count.stamp (y.count.feedMsg to)]) hfr9 (Els.single (T := msgE) (y := y.count.stamp (y.count.feedMsg to)) ⟨ve8, rfl, hve8.mono hR9⟩)
  refine rj_yk le_ sb_ ?_
  refine xs_nil ?_
  try simp only [cA, nA, List.append_nil]
  refine Ps ?_
  refine rj_nil (hK18 _ _ _ (cj_ret (hret _ _ _ ?_)))
  refine Ea Tryz.results84 (.cons (rv_cells m37 rfl fd_ rfl rfl) (.cons (rv_tmp rfl) .nil)) [] (by first | exact Hp.le_refl _ | exact Hp.le_trans hR34 (Hp.le_trans hR7 (Hp.le_trans hR8 hR9)) | exact Hp.le_trans hR34 hR7 | exact Hp.le_trans hR34 (Hp.le_trans hR8 hR9)) ?_
  first|(rw [hN, if_pos f0]; exact ⟨v, _, rfl, hv, by rw [ho]; exact FrX.nil, rfl⟩)|(rw [hN]; exact ⟨w, _, rfl, (hycv.mono (Hp.le_trans hR8 hR9)).feed to, by rw [feed_out hyco]; exact hfx9, rfl⟩)|(rw [hN]; exact ⟨w, _, rfl, hycv, by rw [hyco]; exact FrX.nil, rfl⟩)|(rw [hN]; exact ⟨w, _, rfl, (hyv.mono (Hp.le_trans hR8 hR9)).feed to, by rw [feed_out hyo]; exact hfx9, rfl⟩)
  have g1 : ¬ k1 + 1 ≤ x.g.last := by simpa using hc71
  rw [if_neg g1] at hN
  refine cj_skip (hK15 _ _ _ (cj_seq fun K19 hK19 => cj_region ?_))
  refine Pa ((Lm (vs := rnC w y.count) m37)) ?_
  refine Sm (vs := rnC w y.count) m37 hycvo ?_
  refine Ps ?_
  refine rj_nil (hK19 _ _ _ (cj_ret (hret _ _ _ ?_)))
  refine Ea Tryz.results84 (.cons (rv_cells m37 rfl fd_ rfl rfl) (.cons (rv_tmp rfl) .nil)) [] (by first | exact Hp.le_refl _ | exact Hp.le_trans hR34 (Hp.le_trans hR7 (Hp.le_trans hR8 hR9)) | exact Hp.le_trans hR34 hR7 | exact Hp.le_trans hR34 (Hp.le_trans hR8 hR9)) ?_
  first|(rw [hN, if_pos f0]; exact ⟨v, _, rfl, hv, by rw [ho]; exact FrX.nil, rfl⟩)|(rw [hN]; exact ⟨w, _, rfl, (hycv.mono (Hp.le_trans hR8 hR9)).feed to, by rw [feed_out hyco]; exact hfx9, rfl⟩)|(rw [hN]; exact ⟨w, _, rfl, hycv, by rw [hyco]; exact FrX.nil, rfl⟩)|(rw [hN]; exact ⟨w, _, rfl, (hyv.mono (Hp.le_trans hR8 hR9)).feed to, by rw [feed_out hyo]; exact hfx9, rfl⟩)
  have f3 : m.ok = false := by simpa using hc29
  rw [if_pos f3] at hN
  obtain ⟨y, hy⟩ : ∃ y, y = x.setPeer to (q1, x.mat to) := ⟨_, rfl⟩
  rw [← hy] at hN
  have hyin : LIn T I A y := by rw [hy]; exact (hx.setPeer to (p := (q1, x.mat to)) (by dsimp only; omega)).inn
  have hyo : y.out = [] := by rw [hy]; exact ho
  have hyn : NIn 0 y := hyin.nin0 hB hyo
  have hyr : y.role = 2 := by rw [hy]; exact f1
  have hyN : y.n = x.n := by rw [hy]; rfl
  refine cj_skip (hK9 _ _ _ (cj_seq fun K20 hK20 => ?_))
  refine cj_mixg (L := [blk b2 (rnC { v with vn := v21, vm := v26 } x) 37, blk b3 (msgC m ve) 48, slc 31 1 v26 x.peers.length (u64V (x.peers.map (·.2))), slc 31 1 v21 x.peers.length (u64V (x.peers.map (·.1)))]) [0, 1, 2, 3, 4, 5, 6, 7, 8, 9, 10, 11, 12, 13, 14, 15, 16, 17, 18, 19, 20, 21, 22, 23] [] [24] _ sb_ (by kernel_rfl) (by kernel_rfl) (by kernel_rfl) rfl ?_
  refine Wa rfl (fun R1 hR1 G => (Ga Tryz.underlying37 Tryz.sizeOf35)) ?_
  first | refine Wa rfl (fun R1 hR1 G => (La o35)) ?_ | refine Wa rfl (fun R1 hR1 G => (Ls o35)) ?_
  refine Wa rfl (fun R1 hR1 G => (Ga Tryz.underlying48 Tryz.sizeOf3)) ?_
  first | refine Wa rfl (fun R1 hR1 G => (La o3)) ?_ | refine Wa rfl (fun R1 hR1 G => (Ls o3)) ?_
  refine Wa rfl (fun R1 hR1 G => (Ga Tryz.underlying37 Tryz.sizeOf35)) ?_
  first | refine Wa rfl (fun R1 hR1 G => (La o35)) ?_ | refine Wa rfl (fun R1 hR1 G => (Ls o35)) ?_
  refine Wa rfl (fun R1 hR1 G => (Ga Tryz.underlying48 Tryz.sizeOf3)) ?_
  first | refine Wa rfl (fun R1 hR1 G => (La o3)) ?_ | refine Wa rfl (fun R1 hR1 G => (Ls o3)) ?_
  refine Wa rfl (fun R1 hR1 G => (y_index_slc Tryz.underlying35 Tryz.sizeOf31 rfl rfl fd_ (by omega))) ?_
  refine Wa rfl (fun R1 hR1 G => (y_load_slc o31 rfl fd_ (by rw [u64V_nth _ to m.frm hfto htl1, nxt_map]))) ?_
  refine Wa rfl (fun R1 hR1 G => (y_subu rfl rfl (by omega))) ?_
  refine Wa rfl (fun R1 hR1 G => (Ga Tryz.underlying48 Tryz.sizeOf31)) ?_
  first | refine Wa rfl (fun R1 hR1 G => (La o31)) ?_ | refine Wa rfl (fun R1 hR1 G => (Ls o31)) ?_
  refine Wa rfl (fun R1 hR1 G => (y_addu rfl rfl (by omega))) ?_
  refine Wa rfl (fun R1 hR1 G => (y_min rfl rfl)) ?_
  refine Wa rfl (fun R1 hR1 G => (Ga Tryz.underlying37 Tryz.sizeOf35)) ?_
  first | refine Wa rfl (fun R1 hR1 G => (La o35)) ?_ | refine Wa rfl (fun R1 hR1 G => (Ls o35)) ?_
  refine Wa rfl (fun R1 hR1 G => (Ga Tryz.underlying48 Tryz.sizeOf3)) ?_
  first | refine Wa rfl (fun R1 hR1 G => (La o3)) ?_ | refine Wa rfl (fun R1 hR1 G => (Ls o3)) ?_
  refine Wa rfl (fun R1 hR1 G => (y_index_slc Tryz.underlying35 Tryz.sizeOf31 rfl rfl fd_ (by omega))) ?_
  refine Wa rfl (fun R1 hR1 G => (y_load_slc o31 rfl fd_ (by rw [u64V_nth _ to m.frm hfto htl2, mat_map]))) ?_
  refine Wa rfl (fun R1 hR1 G => (y_addu rfl rfl (by omega))) ?_
  refine Wa rfl (fun R1 hR1 G => (Yld.to (u := .int .u64 q1) (y_max3 rfl rfl rfl) (by rw [hq1]; congr 1; omega))) ?_
  refine Wa rfl (fun R1 hR1 G => (y_index_slc Tryz.underlying35 Tryz.sizeOf31 rfl rfl fd_ (by omega))) ?_
  refine fj_nil ?_
  refine xj_nil ?_
  try simp only [cA, nA, List.append_nil]
  refine rj_store_slc (ys := u64V ((x.peers.map (·.1)).set to q1)) o31 (wn0 rfl) rfl rfl rfl fd_ (by omega) (by rw [u64V_set _ to m.frm _ hfto]) (by omega) ?_
  refine rj_nil (hK20 _ _ _ ?_)
  refine cj_env (eL 2 rfl (eL 3 rfl (eL 4 rfl eN))) ?_
  refine cj_seq fun K21 hK21 => ?_
  refine cj_freeze (e := 31) (sz := 1) (n := x.peers.length) (v := v21) (xs := u64V ((x.peers.map (·.1)).set to q1)) fd_ (fun R3 hR3 hfr3 hxl3 => ?_)
  refine cj_freeze (e := 31) (sz := 1) (n := x.peers.length) (v := v26) (xs := u64V (x.peers.map (·.2))) fd_ (fun R4 hR4 hfr4 hxl4 => ?_)
  have hR34 := Hp.le_trans hR3 hR4
  have hyNx : FrX u64E R4 ((x.peers.map (·.1)).set to q1) v21 := (u64Fr (by simpa using hfr3)).mono hR4
  obtain ⟨w, hw⟩ : ∃ w : RW, w = { v with vn := v21, vm := v26 } := ⟨_, rfl⟩
  have hyv : RNOk R4 w y := by rw [hw, hy]; exact ⟨hva.mono hR34, hvvo, by assumption, by assumption, fun h => by have h2 : x.role = 1 := h; omega, fun _ => by rw [setPeer_fst]; exact hyNx, fun _ => by rw [setPeer_snd]; dsimp only; rw [← mat_map, set_same _ _ _ htl2]; exact u64Fr (by simpa using hfr4)⟩
  refine cj_turnA (A := blk b2 _ 37) (B := blk b2 (rnC w y) 37) fd_ (fun h hh => by rw [hw, hy]; exact hh) ?_
  have hyvo := rnC_one hyv
  refine cj_mixs (L := [blk b2 (rnC w y) 37, blk b3 (msgC m ve) 48]) [0, 1, 2, 3] [4, 5, 6] [7] _ noX_ok sb_ (by kernel_rfl) (by kernel_rfl) (by kernel_rfl) rfl ?_
  refine Wa rfl (fun R1 hR1 G => (Lm (vs := rnC w y) m37)) ?_
  refine Wa rfl (fun R1 hR1 G => (Lm (vs := rnC w y) m37)) ?_
  refine Wa rfl (fun R1 hR1 G => (Ga Tryz.underlying48 Tryz.sizeOf3)) ?_
  refine Wa rfl (fun R1 hR1 G => (Yld.to (u := .int .i64 (to : Int)) (La o3) (by rw [hfto]))) ?_
  refine fj_nil ?_
  refine xs_all [4] (by kernel_rfl) ⟨?_, trivial⟩
  refine yj_rj rfl ?_
  try simp only [cA, nA, List.append_nil]
  refine Ra Tryz.call103 (rfeed_t w y 0 (by omega) hyn hyv hyr to (by rw [hyN]; exact hton)) ?_
  rintro r R8 L' hR8 ⟨⟨ve8, rfl, hve8⟩, rfl⟩
  have hve8o := hve8.one
  try simp only [cA, nA]
  refine rj_yk le_ sb_ ?_
  refine xs_all [5, 6] (by kernel_rfl) ⟨?_, ?_, trivial⟩
  refine yj_rj rfl ?_
  try simp only [cA, nA, List.append_nil]
  refine rj_buildSlice (sz := 10) (wn0 rfl) rfl Tryz.underlying28 Tryz.sizeOf48 Tryz.zeroValue48 rfl rfl rfl (by decide) (by decide) (fun b77 => ?_)
  refine rj_freeze (e := 48) (sz := 10) (n := 1) (v := .slice (some ⟨b77, 0, none⟩) 1 1) (xs := [msgC (y.stamp (y.feedMsg to)) ve8].flatten) fd_ (fun R9 hR9 hfr9 hxl9 => ?_)
  have hfx9 : FrX msgE R9 [y.stamp (y.feedMsg to)] (.slice (some ⟨b77, 0, none⟩) 1 1) := FrozenS.frx (l := [y.stamp (y.feedMsg to)]) hfr9 (Els.single (T := msgE) (y := y.stamp (y.feedMsg to)) ⟨ve8, rfl, hve8.mono hR9⟩)
  refine rj_yk le_ sb_ ?_
  refine xs_all [6] (by kernel_rfl) ⟨?_, trivial⟩
  refine yj_rj rfl ?_
  try simp only [cA, nA, List.append_nil]
  refine Sm (vs := rnC w y) m37 hyvo ?_
  refine rj_yk le_ sb_ ?_
  refine xs_nil ?_
  try simp only [cA, nA, List.append_nil]
  refine Ps ?_
  refine rj_nil (hK21 _ _ _ (cj_ret (hret _ _ _ ?_)))
  refine Ea Tryz.results84 (.cons (rv_cells m37 rfl fd_ rfl rfl) (.cons (rv_tmp rfl) .nil)) [] (by first | exact Hp.le_refl _ | exact Hp.le_trans hR34 (Hp.le_trans hR7 (Hp.le_trans hR8 hR9)) | exact Hp.le_trans hR34 hR7 | exact Hp.le_trans hR34 (Hp.le_trans hR8 hR9)) ?_
  first|(rw [hN, if_pos f0]; exact ⟨v, _, rfl, hv, by rw [ho]; exact FrX.nil, rfl⟩)|(rw [hN]; exact ⟨w, _, rfl, (hycv.mono (Hp.le_trans hR8 hR9)).feed to, by rw [feed_out hyco]; exact hfx9, rfl⟩)|(rw [hN]; exact ⟨w, _, rfl, hycv, by rw [hyco]; exact FrX.nil, rfl⟩)|(rw [hN]; exact ⟨w, _, rfl, (hyv.mono (Hp.le_trans hR8 hR9)).feed to, by rw [feed_out hyo]; exact hfx9, rfl⟩)
  refine yj_rj rfl ?_
  try simp only [cA, nA, List.append_nil]
  refine Sm (vs := rnC w y) m37 hyvo ?_
  refine rj_yk le_ sb_ ?_
  refine xs_all [5] (by kernel_rfl) ⟨?_, trivial⟩
  refine yj_rj rfl ?_
  try simp only [cA, nA, List.append_nil]
  refine rj_buildSlice (sz := 10) (wn0 rfl) rfl Tryz.underlying28 Tryz.sizeOf48 Tryz.zeroValue48 rfl rfl rfl (by decide) (by decide) (fun b77 => ?_)
  refine rj_freeze (e := 48) (sz := 10) (n := 1) (v := .slice (some ⟨b77, 0, none⟩) 1 1) (xs := [msgC (y.stamp (y.feedMsg to)) ve8].flatten) fd_ (fun R9 hR9 hfr9 hxl9 => ?_)
  have hfx9 : FrX msgE R9 [y.stamp (y.feedMsg to)] (.slice (some ⟨b77, 0, none⟩) 1 1) := FrozenS.frx (l := [y.stamp (y.feedMsg to)]) hfr9 (Els.single (T := msgE) (y := y.stamp (y.feedMsg to)) ⟨ve8, rfl, hve8.mono hR9⟩)
  refine rj_yk le_ sb_ ?_
  refine xs_nil ?_
  try simp only [cA, nA, List.append_nil]
  refine Ps ?_
  refine rj_nil (hK21 _ _ _ (cj_ret (hret _ _ _ ?_)))
  refine Ea Tryz.results84 (.cons (rv_cells m37 rfl fd_ rfl rfl) (.cons (rv_tmp rfl) .nil)) [] (by first | exact Hp.le_refl _ | exact Hp.le_trans hR34 (Hp.le_trans hR7 (Hp.le_trans hR8 hR9)) | exact Hp.le_trans hR34 hR7 | exact Hp.le_trans hR34 (Hp.le_trans hR8 hR9)) ?_
  first|(rw [hN, if_pos f0]; exact ⟨v, _, rfl, hv, by rw [ho]; exact FrX.nil, rfl⟩)|(rw [hN]; exact ⟨w, _, rfl, (hycv.mono (Hp.le_trans hR8 hR9)).feed to, by rw [feed_out hyco]; exact hfx9, rfl⟩)|(rw [hN]; exact ⟨w, _, rfl, hycv, by rw [hyco]; exact FrX.nil, rfl⟩)|(rw [hN]; exact ⟨w, _, rfl, (hyv.mono (Hp.le_trans hR8 hR9)).feed to, by rw [feed_out hyo]; exact hfx9, rfl⟩)
end V
end Go.Proofs.YtjdbigplednihaaGreat
set_option linter.unusedSimpArgs false
set_option linter.unusedVariables false
set_option maxRecDepth 100000
namespace Go.Proofs.YtjdbigplednihaaGreat
open Go.RowKit
namespace V
set_option maxHeartbeats 4000000
theorem bolEls {R : Hp} {l : List Bool} {css : List (List Value)} (h : Els bolE R l css) : css.flatten = bolV l := by
  rw [bolV_flat]
  congr 1
  apply List.ext_getElem?
  intro i
  rw [List.getElem?_map]
  by_cases hi : i < l.length
  · have h1 := List.getElem?_eq_getElem hi
    have h2 := List.getElem?_eq_getElem (l := css) (i := i) (by rw [h.1]; exact hi)
    have h3 := h.2 i _ _ h1 h2
    rw [h1, h2, Option.map_some]
    exact congrArg some h3
  · rw [List.getElem?_eq_none (by rw [h.1]; omega), List.getElem?_eq_none (by omega)]; rfl
theorem bolV_len (l : List Bool) : (bolV l).length = l.length := by unfold bolV; simp
theorem bolV_set (l : List Bool) (k : Nat) (z : Int) (hz : z = k) (b : Bool) : setNth (bolV l) (z.toNat * 1) (.bool b) = bolV (l.set k b) := by
  subst hz
  rw [setNth_eq]
  unfold bolV
  simp [List.map_set]
theorem has_len (x : ND) : x.has.length = x.n := by unfold ND.has; simp
theorem has_set (x : ND) (k : Nat) (hk : k < x.n) : x.has.set k true = ND.has { x with votes := setAdd x.votes (k : Int) } := by
  apply List.ext_getElem?
  intro i
  unfold ND.has
  rw [List.getElem?_set, List.getElem?_map, List.getElem?_map, List.length_map, List.length_range]
  by_cases hi : i < x.n
  · rw [List.getElem?_range hi]
    have key : ((i : Int) ∈ setAdd x.votes (k : Int)) ↔ ((i : Int) ∈ x.votes ∨ i = k) := by
      unfold setAdd
      split
      · rename_i h
        constructor
        · exact .inl
        · rintro (h1 | rfl)
          · exact h1
          · exact h
      · rw [List.mem_append, List.mem_singleton]
        exact ⟨fun h => h.imp id (fun h => by omega), fun h => h.imp id (fun h => by omega)⟩
    by_cases h1 : k = i
    · subst h1
      rw [if_pos rfl, if_pos hk, Option.map_some, decide_eq_true (key.2 (.inr rfl))]
    · rw [if_neg h1, Option.map_some, Option.map_some]
      congr 1
      rw [decide_eq_decide, key]
      exact ⟨.inl, fun h => h.resolve_right (fun h => h1 h.symm)⟩
  · rw [List.getElem?_eq_none (by simp; omega), if_neg (by omega)]
    rfl
def cntB (l : List Bool) (c : Nat) : Nat := ((l.take c).filter id).length
theorem cntB_succ {l : List Bool} {c : Nat} (h : c < l.length) : cntB l (c + 1) = if l.getD c false = true then cntB l c + 1 else cntB l c := by
  unfold cntB
  rw [List.take_add_one, List.getElem?_eq_getElem h, List.filter_append, List.getD_eq_getElem?_getD, List.getElem?_eq_getElem h]
  cases hl : l[c] <;> simp [hl]
theorem cntB_le (l : List Bool) (c : Nat) : cntB l c ≤ c := by
  unfold cntB
  have h1 := List.length_filter_le id (l.take c)
  have h2 := List.length_take_le c l
  omega
theorem cntB_has {x : ND} (hv : x.votes.Nodup ∧ ∀ i ∈ x.votes, 0 ≤ i ∧ i < (x.n : Int)) : cntB x.has x.n = x.votes.length := by
  unfold cntB
  rw [List.take_of_length_le (by rw [has_len]; exact Nat.le_refl _)]
  unfold ND.has
  rw [List.filter_map, List.length_map]
  have hp : (((List.range x.n).filter (id ∘ fun (i : Nat) => decide ((i : Int) ∈ x.votes))).map (fun (i : Nat) => (i : Int))).Perm x.votes := by
    rw [List.perm_ext_iff_of_nodup _ hv.1]
    · intro a
      simp only [List.mem_map, List.mem_filter, List.mem_range, Function.comp, id, decide_eq_true_eq]
      constructor
      · rintro ⟨i, ⟨_, h⟩, rfl⟩; exact h
      · intro h
        have := hv.2 a h
        exact ⟨a.toNat, ⟨by omega, by rw [show ((a.toNat : Nat) : Int) = a by omega]; exact h⟩, by omega⟩
    · exact (List.Pairwise.map _ (fun a b h h2 => h (by have h3 : (a : Int) = (b : Int) := h2; omega)) ((List.nodup_range).filter _))
  have := hp.length_eq
  rw [List.length_map] at this
  exact this
theorem send_out {y : ND} (h : y.out = []) (m : Msg) : (y.send m).out = [y.stamp m] := by unfold ND.send; rw [h]; rfl
theorem rreceive_t {R : Hp} (v : RW) (x : ND) (m : Msg) (ve : Value) {T I : Int} {A : Nat} (hx : LIn T I A x) (hB : BB T (I + 20) (A + 20)) (ho : x.out = []) (hv : RNOk R v x) (hm : MLn T I m) (hmc : m.commit < 18446744073709551616) (hve : FrX entE R m.es ve) :
    Tri Tryz.prog 47 [.agg ⟨rnC v x⟩, .agg ⟨msgC m ve⟩] R [] (RP (x.receiveP m)) := by
  have hB0 : BB T I A := LIn.bb hB (Int.le_refl _) (by omega) (by omega)
  have hB1 : BB T (I + 1) (A + 1) := LIn.bb hB (Int.le_refl _) (by omega) (by omega)
  have hva := hv.va
  have hvao := hva.one
  have hveo := hve.one
  have hmt := hm.term
  have hmi := hm.index
  have hob := rnC_one hv
  have hidn := hx.idn
  have hxt := hx.term
  refine tri_of Tryz.func47 rfl Tryz.ntmps47 rfl (fun σ F Q hret hend hpan => ?_)
  try simp only [cA, nA]
  refine cj_seq fun K1 hK1 => cj_region ?_
  refine rj_box (wn0 rfl) rfl rfl rfl (fun b2 => ?_)
  refine rj_box (wn0 rfl) rfl rfl rfl (fun b3 => ?_)
  refine rj_alloc (wn0 rfl) rfl Tryz.zeroValue37 rfl (fun b4 => ?_)
  refine Ps ?_
  refine rj_nil (hK1 _ _ _ (cj_seq fun K2 hK2 => cj_seq fun K3 hK3 => cj_region ?_))
  refine Pa (Ga Tryz.underlying48 Tryz.sizeOf3) ?_
  first | refine Pa (La o3) ?_ | refine Pa (Ls o3) ?_
  refine Pa (Ga Tryz.underlying37 Tryz.sizeOf3) ?_
  first | refine Pa (La o3) ?_ | refine Pa (Ls o3) ?_
  refine Pa (y_neq rfl rfl) ?_
  refine Pm ?_
  refine rj_part 16 rfl (fun hg16 => ?_) (fun hg16 => ?_)
  have f0 : ¬ m.to = x.id ∨ m.frm = x.id ∨ m.frm < 0 ∨ m.frm ≥ x.n := .inl (by simpa using hg16)
  have hN : x.receiveP m = x := by unfold ND.receiveP; rw [if_pos f0]
  refine Pk ?_
  refine Pk ?_
  refine Pk ?_
  refine Pk ?_
  refine Pk ?_
  refine Pa (y_pick_t rfl rfl) ?_
  refine Pm ?_
  refine Pk ?_
  refine Pk ?_
  refine Pk ?_
  refine Pa (y_pick_t rfl rfl) ?_
  refine Pm ?_
  refine Pk ?_
  refine Pk ?_
  refine Pk ?_
  refine Pk ?_
  refine Pk ?_
  refine Pa (y_pick_t rfl rfl) ?_
  refine rj_nil (hK3 _ _ _ ?_)
  refine cj_env (eL 2 rfl (eL 3 rfl (eL 4 rfl (eL 34 rfl eN)))) ?_
  refine cj_cond_t rfl (cj_seq fun K4 hK4 => cj_region ?_)
  refine Pa ((Lm (vs := rnC v x) m37)) ?_
  refine Sm (vs := rnC v x) m37 hob ?_
  refine Ps ?_
  refine rj_nil (hK4 _ _ _ (cj_ret (hret _ _ _ ?_)))
  refine Ea Tryz.results47 (.cons (rv_cells m37 rfl fd_ rfl rfl) (.cons (rv_tmp rfl) .nil)) [] (by first | exact Hp.le_refl _ | exact Hp.le_trans hR4 hR5 | exact hR5 | exact hR4 | exact hR8 | exact hR9) ?_
  first|(rw [hN]; exact ⟨v, _, rfl, hv, by rw [ho]; exact FrX.nil, rfl⟩)|(rw [hN]; exact ⟨v, _, rfl, hyv, by rw [hyo]; exact FrX.nil, rfl⟩)|(rw [hN]; exact ⟨v, _, rfl, (hyv.mono hR8).answer m false _, by rw [answer_out hyo]; exact hfx8, rfl⟩)|(rw [hE0, hz]; exact ⟨v, _, rfl, (hzv.mono hR9).to (y := z.send (ND.voteMsg m gr)) ⟨rfl, rfl, rfl, rfl, rfl⟩, by rw [send_out hzo]; exact hfx9, rfl⟩)|(rw [hE0, hV]; exact ⟨w5, vl5, rfl, hw5, hfx5, rfl⟩)|(rw [hE0, hV]; exact ⟨w, _, rfl, hzv, by rw [hzo]; exact FrX.nil, rfl⟩)|(rw [hF0]; exact ⟨w5, vl5, rfl, hw5, hfx5, rfl⟩)
  have f1 : m.to = x.id := by simpa using hg16
  refine Pb (Ga Tryz.underlying48 Tryz.sizeOf3) ?_
  first | refine Pb (La o3) ?_ | refine Pb (Ls o3) ?_
  refine Pb (Ga Tryz.underlying37 Tryz.sizeOf3) ?_
  first | refine Pb (La o3) ?_ | refine Pb (Ls o3) ?_
  refine Pb (y_eql rfl rfl) ?_
  refine Pa (y_pick_f rfl rfl) ?_
  refine Pm ?_
  refine rj_part 23 rfl (fun hg23 => ?_) (fun hg23 => ?_)
  first|(have f0 : ¬ m.to = x.id ∨ m.frm = x.id ∨ m.frm < 0 ∨ m.frm ≥ x.n := .inr (.inl (by simpa using hg23)); have hN : x.receiveP m = x := by (unfold ND.receiveP; rw [if_pos f0]))|skip
  refine Pk ?_
  refine Pk ?_
  refine Pk ?_
  refine Pa (y_pick_t rfl rfl) ?_
  refine Pm ?_
  refine Pk ?_
  refine Pk ?_
  refine Pk ?_
  refine Pk ?_
  refine Pk ?_
  refine Pa (y_pick_t rfl rfl) ?_
  refine rj_nil (hK3 _ _ _ ?_)
  refine cj_env (eL 2 rfl (eL 3 rfl (eL 4 rfl (eL 34 rfl eN)))) ?_
  refine cj_cond_t rfl (cj_seq fun K5 hK5 => cj_region ?_)
  refine Pa ((Lm (vs := rnC v x) m37)) ?_
  refine Sm (vs := rnC v x) m37 hob ?_
  refine Ps ?_
  refine rj_nil (hK5 _ _ _ (cj_ret (hret _ _ _ ?_)))
  refine Ea Tryz.results47 (.cons (rv_cells m37 rfl fd_ rfl rfl) (.cons (rv_tmp rfl) .nil)) [] (by first | exact Hp.le_refl _ | exact Hp.le_trans hR4 hR5 | exact hR5 | exact hR4 | exact hR8 | exact hR9) ?_
  first|(rw [hN]; exact ⟨v, _, rfl, hv, by rw [ho]; exact FrX.nil, rfl⟩)|(rw [hN]; exact ⟨v, _, rfl, hyv, by rw [hyo]; exact FrX.nil, rfl⟩)|(rw [hN]; exact ⟨v, _, rfl, (hyv.mono hR8).answer m false _, by rw [answer_out hyo]; exact hfx8, rfl⟩)|(rw [hE0, hz]; exact ⟨v, _, rfl, (hzv.mono hR9).to (y := z.send (ND.voteMsg m gr)) ⟨rfl, rfl, rfl, rfl, rfl⟩, by rw [send_out hzo]; exact hfx9, rfl⟩)|(rw [hE0, hV]; exact ⟨w5, vl5, rfl, hw5, hfx5, rfl⟩)|(rw [hE0, hV]; exact ⟨w, _, rfl, hzv, by rw [hzo]; exact FrX.nil, rfl⟩)|(rw [hF0]; exact ⟨w5, vl5, rfl, hw5, hfx5, rfl⟩)
  first|(have f2 : ¬ m.frm = x.id := by simpa using hg23)|skip
  refine Pb (Ga Tryz.underlying48 Tryz.sizeOf3) ?_
  first | refine Pb (La o3) ?_ | refine Pb (Ls o3) ?_
  refine Pb (y_lss rfl rfl) ?_
  refine Pa (y_pick_f rfl rfl) ?_
  refine Pm ?_
  refine rj_part 28 rfl (fun hg28 => ?_) (fun hg28 => ?_)
  first|(have f0 : ¬ m.to = x.id ∨ m.frm = x.id ∨ m.frm < 0 ∨ m.frm ≥ x.n := .inr (.inr (.inl (by simpa using hg28))); have hN : x.receiveP m = x := by (unfold ND.receiveP; rw [if_pos f0]))|skip
  refine Pk ?_
  refine Pk ?_
  refine Pk ?_
  refine Pk ?_
  refine Pk ?_
  refine Pa (y_pick_t rfl rfl) ?_
  refine rj_nil (hK3 _ _ _ (cj_cond_t rfl (cj_seq fun K6 hK6 => cj_region ?_)))
  refine Pa ((Lm (vs := rnC v x) m37)) ?_
  refine Sm (vs := rnC v x) m37 hob ?_
  refine Ps ?_
  refine rj_nil (hK6 _ _ _ (cj_ret (hret _ _ _ ?_)))
  refine Ea Tryz.results47 (.cons (rv_cells m37 rfl fd_ rfl rfl) (.cons (rv_tmp rfl) .nil)) [] (by first | exact Hp.le_refl _ | exact Hp.le_trans hR4 hR5 | exact hR5 | exact hR4 | exact hR8 | exact hR9) ?_
  first|(rw [hN]; exact ⟨v, _, rfl, hv, by rw [ho]; exact FrX.nil, rfl⟩)|(rw [hN]; exact ⟨v, _, rfl, hyv, by rw [hyo]; exact FrX.nil, rfl⟩)|(rw [hN]; exact ⟨v, _, rfl, (hyv.mono hR8).answer m false _, by rw [answer_out hyo]; exact hfx8, rfl⟩)|(rw [hE0, hz]; exact ⟨v, _, rfl, (hzv.mono hR9).to (y := z.send (ND.voteMsg m gr)) ⟨rfl, rfl, rfl, rfl, rfl⟩, by rw [send_out hzo]; exact hfx9, rfl⟩)|(rw [hE0, hV]; exact ⟨w5, vl5, rfl, hw5, hfx5, rfl⟩)|(rw [hE0, hV]; exact ⟨w, _, rfl, hzv, by rw [hzo]; exact FrX.nil, rfl⟩)|(rw [hF0]; exact ⟨w5, vl5, rfl, hw5, hfx5, rfl⟩)
  first|(have f3 : ¬ m.frm < 0 := by simpa using hg28)|skip
  refine Pb (Ga Tryz.underlying48 Tryz.sizeOf3) ?_
  first | refine Pb (La o3) ?_ | refine Pb (Ls o3) ?_
  refine Pb (Ga Tryz.underlying37 Tryz.sizeOf3) ?_
  first | refine Pb (La o3) ?_ | refine Pb (Ls o3) ?_
  refine Pb (y_geq rfl rfl) ?_
  refine Pa (y_pick_f rfl rfl) ?_
  refine rj_nil (hK3 _ _ _ ?_)
  refine cj_env (eL 2 rfl (eL 3 rfl (eL 4 rfl (eL 34 rfl eN)))) ?_
  refine cj_cond rfl (fun hc34 => ?_) (fun hc34 => ?_)
  first|(have f0 : ¬ m.to = x.id ∨ m.frm = x.id ∨ m.frm < 0 ∨ m.frm ≥ x.n := .inr (.inr (.inr (by simpa using hc34))); have hN : x.receiveP m = x := by (unfold ND.receiveP; rw [if_pos f0]))|skip
  refine cj_seq fun K8 hK8 => cj_region ?_
  refine Pa ((Lm (vs := rnC v x) m37)) ?_
  refine Sm (vs := rnC v x) m37 hob ?_
  refine Ps ?_
  refine rj_nil (hK8 _ _ _ (cj_ret (hret _ _ _ ?_)))
  refine Ea Tryz.results47 (.cons (rv_cells m37 rfl fd_ rfl rfl) (.cons (rv_tmp rfl) .nil)) [] (by first | exact Hp.le_refl _ | exact Hp.le_trans hR4 hR5 | exact hR5 | exact hR4 | exact hR8 | exact hR9) ?_
  first|(rw [hN]; exact ⟨v, _, rfl, hv, by rw [ho]; exact FrX.nil, rfl⟩)|(rw [hN]; exact ⟨v, _, rfl, hyv, by rw [hyo]; exact FrX.nil, rfl⟩)|(rw [hN]; exact ⟨v, _, rfl, (hyv.mono hR8).answer m false _, by rw [answer_out hyo]; exact hfx8, rfl⟩)|(rw [hE0, hz]; exact ⟨v, _, rfl, (hzv.mono hR9).to (y := z.send (ND.voteMsg m gr)) ⟨rfl, rfl, rfl, rfl, rfl⟩, by rw [send_out hzo]; exact hfx9, rfl⟩)|(rw [hE0, hV]; exact ⟨w5, vl5, rfl, hw5, hfx5, rfl⟩)|(rw [hE0, hV]; exact ⟨w, _, rfl, hzv, by rw [hzo]; exact FrX.nil, rfl⟩)|(rw [hF0]; exact ⟨w5, vl5, rfl, hw5, hfx5, rfl⟩)
  have f4 : ¬ m.frm ≥ x.n := by simpa using hc34
  have f0 : ¬ (¬ m.to = x.id ∨ m.frm = x.id ∨ m.frm < 0 ∨ m.frm ≥ x.n) := by omega
  refine cj_skip (hK2 _ _ _ (cj_seq fun K9 hK9 => ?_))
  have hJ7 : ∀ (x7 : ND), LIn T I A x7 ∧ x7.out = [] ∧ RNOk R v x7 ∧ x7.n = x.n ∧ x.receiveP m = x7.kindP m → EJ ⟨Tryz.prog, 223, σ⟩ K9 [(2, .pointer (some ⟨b2, 0, none⟩)), (3, .pointer (some ⟨b3, 0, none⟩)), (4, .pointer (some ⟨b4, 0, none⟩))] R (blk b2 (rnC v x7) 37 :: blk b3 (msgC m ve) 48 :: blk b4 rn0 37 :: F) := by
    rintro y ⟨hyin, hyo, hyv, hyn, hE⟩
    try dsimp only
    have hyvo := rnC_one hyv
    have hy0 := hyin.nin0 hB0 hyo
    have hyg := hy0.g (by omega)
    have hyva := hyv.va
    have hf : 0 ≤ m.frm ∧ m.frm < y.n := by omega
    obtain ⟨fr, hfr⟩ : ∃ fr : Nat, m.frm = (fr : Int) := ⟨m.frm.toNat, by omega⟩
    have hyt := hyin.term
    have hyvt := hyin.vote
    have hyid := hyin.idn
    refine hK9 _ _ _ (cj_seq fun K10 hK10 => cj_seq fun K11 hK11 => cj_region ?_)
    refine Pa (Ga Tryz.underlying48 Tryz.sizeOf3) ?_
    first | refine Pa (La o3) ?_ | refine Pa (Ls o3) ?_
    refine rj_nil (hK11 _ _ _ (cj_block (cj_seq fun K12 hK12 => cj_region ?_)))
    refine Pa (y_eql rfl rfl) ?_
    refine Ps ?_
    refine rj_nil (hK12 _ _ _ ?_)
    refine cj_cond rfl (fun hc55 => ?_) (fun hc55 => ?_)
    have k0 : m.kind = 0 := by simpa using hc55
    have hE0 : x.receiveP m = y.askedP m := by rw [hE]; unfold ND.kindP; rw [if_pos k0]
    refine cj_seq fun K14 hK14 => ?_
    have hJ10 : ∀ (gd : Bool), gd = y.good m → EJ ⟨Tryz.prog, 223, σ⟩ K14 [(2, .pointer (some ⟨b2, 0, none⟩)), (3, .pointer (some ⟨b3, 0, none⟩)), (4, .pointer (some ⟨b4, 0, none⟩)), (6, .bool gd)] R (blk b2 (rnC v y) 37 :: blk b3 (msgC m ve) 48 :: blk b4 rn0 37 :: F) := by
      rintro gd hgd
      try dsimp only
      refine hK14 _ _ _ (cj_seq fun K15 hK15 => ?_)
      have hJ11 : ∀ (gr : Bool), gr = y.grants m → EJ ⟨Tryz.prog, 223, σ⟩ K15 [(2, .pointer (some ⟨b2, 0, none⟩)), (3, .pointer (some ⟨b3, 0, none⟩)), (4, .pointer (some ⟨b4, 0, none⟩)), (7, .bool gr)] R (blk b2 (rnC v y) 37 :: blk b3 (msgC m ve) 48 :: blk b4 rn0 37 :: F) := by
        rintro gr hgr
        try dsimp only
        refine hK15 _ _ _ (cj_seq fun K16 hK16 => ?_)
        have hJ14 : ∀ (x14 : ND), x14.out = [] ∧ RNOk R v x14 ∧ y.askedP m = x14.send (ND.voteMsg m gr) → EJ ⟨Tryz.prog, 223, σ⟩ K16 [(2, .pointer (some ⟨b2, 0, none⟩)), (3, .pointer (some ⟨b3, 0, none⟩)), (4, .pointer (some ⟨b4, 0, none⟩)), (7, .bool gr)] R (blk b2 (rnC v x14) 37 :: blk b3 (msgC m ve) 48 :: blk b4 rn0 37 :: F) := by
          rintro z ⟨hzo, hzv, hz⟩
          try dsimp only
          have hzvo := rnC_one hzv
          refine hK16 _ _ _ (cj_seq fun K17 hK17 => cj_region ?_)
          refine Pa ((Lm (vs := rnC v z) m37)) ?_
          refine Pa (Ga Tryz.underlying48 Tryz.sizeOf3) ?_
          first | refine Pa (La o3) ?_ | refine Pa (Ls o3) ?_
          refine Pa (Ca Tryz.call78 (rmsg_q v z 1 m.frm)) ?_
          refine rj_alloc (wn0 rfl) rfl Tryz.zeroValue48 rfl (fun b8 => ?_)
          refine Sm (vs := msgC { Msg.zero with kind := 1, frm := z.id, to := m.frm, term := z.g.term } (.slice none 0 0)) m48 (msgC_one rfl) ?_
          refine rj_nil (hK17 _ _ _ (cj_seq fun K18 hK18 => cj_region ?_))
          refine Pm ?_
          refine Pa (Ga Tryz.underlying48 Tryz.sizeOf4) ?_
          refine Sa o4 ?_
          refine rj_nil (hK18 _ _ _ (cj_seq fun K19 hK19 => ?_))
          refine cj_mixs (L := [blk b2 (rnC v z) 37, blk b8 (msgC (z.stamp (ND.voteMsg m gr)) (.slice none 0 0)) 48]) [0, 1] [2, 3] [4] _ noX_ok sb_ (by kernel_rfl) (by kernel_rfl) (by kernel_rfl) rfl ?_
          refine Wa rfl (fun R1 hR1 G => (Lm (vs := rnC v z) m37)) ?_
          refine Wa rfl (fun R1 hR1 G => (Lm (vs := msgC (z.stamp (ND.voteMsg m gr)) (.slice none 0 0)) m48)) ?_
          refine fj_nil ?_
          refine xs_all [2, 3] (by kernel_rfl) ⟨?_, ?_, trivial⟩
          refine yj_rj rfl ?_
          try simp only [cA, nA, List.append_nil]
          refine rj_buildSlice (sz := 10) (wn0 rfl) rfl Tryz.underlying28 Tryz.sizeOf48 Tryz.zeroValue48 rfl rfl rfl (by decide) (by decide) (fun b127 => ?_)
          refine rj_freeze (e := 48) (sz := 10) (n := 1) (v := .slice (some ⟨b127, 0, none⟩) 1 1) (xs := [msgC (z.stamp (ND.voteMsg m gr)) (.slice none 0 0)].flatten) fd_ (fun R9 hR9 hfr9 hxl9 => ?_)
          have hfx9 : FrX msgE R9 [z.stamp (ND.voteMsg m gr)] (.slice (some ⟨b127, 0, none⟩) 1 1) := FrozenS.frx (l := [z.stamp (ND.voteMsg m gr)]) hfr9 (Els.single (T := msgE) (y := z.stamp (ND.voteMsg m gr)) ⟨.slice none 0 0, rfl, FrX.nil⟩)
          refine rj_yk le_ sb_ ?_
          refine xs_all [3] (by kernel_rfl) ⟨?_, trivial⟩
          refine yj_rj rfl ?_
          try simp only [cA, nA, List.append_nil]
          refine Sm (vs := rnC v z) m37 hzvo ?_
          refine rj_yk le_ sb_ ?_
          refine xs_nil ?_
          try simp only [cA, nA, List.append_nil]
          refine Ps ?_
          refine rj_nil (hK19 _ _ _ (cj_ret (hret _ _ _ ?_)))
          refine Ea Tryz.results47 (.cons (rv_cells m37 rfl fd_ rfl rfl) (.cons (rv_tmp rfl) .nil)) [] (by first | exact Hp.le_refl _ | exact Hp.le_trans hR4 hR5 | exact hR5 | exact hR4 | exact hR8 | exact hR9) ?_
          first|(rw [hN]; exact ⟨v, _, rfl, hv, by rw [ho]; exact FrX.nil, rfl⟩)|(rw [hN]; exact ⟨v, _, rfl, hyv, by rw [hyo]; exact FrX.nil, rfl⟩)|(rw [hN]; exact ⟨v, _, rfl, (hyv.mono hR8).answer m false _, by rw [answer_out hyo]; exact hfx8, rfl⟩)|(rw [hE0, hz]; exact ⟨v, _, rfl, (hzv.mono hR9).to (y := z.send (ND.voteMsg m gr)) ⟨rfl, rfl, rfl, rfl, rfl⟩, by rw [send_out hzo]; exact hfx9, rfl⟩)|(rw [hE0, hV]; exact ⟨w5, vl5, rfl, hw5, hfx5, rfl⟩)|(rw [hE0, hV]; exact ⟨w, _, rfl, hzv, by rw [hzo]; exact FrX.nil, rfl⟩)|(rw [hF0]; exact ⟨w5, vl5, rfl, hw5, hfx5, rfl⟩)
          refine yj_rj rfl ?_
          try simp only [cA, nA, List.append_nil]
          refine Sm (vs := rnC v z) m37 hzvo ?_
          refine rj_yk le_ sb_ ?_
          refine xs_all [2] (by kernel_rfl) ⟨?_, trivial⟩
          refine yj_rj rfl ?_
          try simp only [cA, nA, List.append_nil]
          refine rj_buildSlice (sz := 10) (wn0 rfl) rfl Tryz.underlying28 Tryz.sizeOf48 Tryz.zeroValue48 rfl rfl rfl (by decide) (by decide) (fun b127 => ?_)
          refine rj_freeze (e := 48) (sz := 10) (n := 1) (v := .slice (some ⟨b127, 0, none⟩) 1 1) (xs := [msgC (z.stamp (ND.voteMsg m gr)) (.slice none 0 0)].flatten) fd_ (fun R9 hR9 hfr9 hxl9 => ?_)
          have hfx9 : FrX msgE R9 [z.stamp (ND.voteMsg m gr)] (.slice (some ⟨b127, 0, none⟩) 1 1) := FrozenS.frx (l := [z.stamp (ND.voteMsg m gr)]) hfr9 (Els.single (T := msgE) (y := z.stamp (ND.voteMsg m gr)) ⟨.slice none 0 0, rfl, FrX.nil⟩)
          refine rj_yk le_ sb_ ?_
          refine xs_nil ?_
          try simp only [cA, nA, List.append_nil]
          refine Ps ?_
          refine rj_nil (hK19 _ _ _ (cj_ret (hret _ _ _ ?_)))
          refine Ea Tryz.results47 (.cons (rv_cells m37 rfl fd_ rfl rfl) (.cons (rv_tmp rfl) .nil)) [] (by first | exact Hp.le_refl _ | exact Hp.le_trans hR4 hR5 | exact hR5 | exact hR4 | exact hR8 | exact hR9) ?_
          first|(rw [hN]; exact ⟨v, _, rfl, hv, by rw [ho]; exact FrX.nil, rfl⟩)|(rw [hN]; exact ⟨v, _, rfl, hyv, by rw [hyo]; exact FrX.nil, rfl⟩)|(rw [hN]; exact ⟨v, _, rfl, (hyv.mono hR8).answer m false _, by rw [answer_out hyo]; exact hfx8, rfl⟩)|(rw [hE0, hz]; exact ⟨v, _, rfl, (hzv.mono hR9).to (y := z.send (ND.voteMsg m gr)) ⟨rfl, rfl, rfl, rfl, rfl⟩, by rw [send_out hzo]; exact hfx9, rfl⟩)|(rw [hE0, hV]; exact ⟨w5, vl5, rfl, hw5, hfx5, rfl⟩)|(rw [hE0, hV]; exact ⟨w, _, rfl, hzv, by rw [hzo]; exact FrX.nil, rfl⟩)|(rw [hF0]; exact ⟨w5, vl5, rfl, hw5, hfx5, rfl⟩)
        refine cj_seq fun K20 hK20 => cj_region ?_
        refine Pm ?_
        refine rj_nil (hK20 _ _ _ ?_)
        refine cj_cond rfl (fun hc105 => ?_) (fun hc105 => ?_)
        have g7 : gr = true := hc105
        have hag : y.askedP m = ND.send { y with g := { y.g with term := y.g.term, vote := m.frm }, patience := 0 } (ND.voteMsg m gr) := by unfold ND.askedP; rw [if_pos (by rw [← hgr]; exact g7), g7]
        refine cj_seq fun K22 hK22 => cj_region ?_
        refine Pa (Ga Tryz.underlying37 Tryz.sizeOf34) ?_
        refine Pa ((Lb (vs := rlC v.va y.g) m34)) ?_
        refine Pa (Ga Tryz.underlying37 Tryz.sizeOf34) ?_
        refine Pa (Ga Tryz.underlying34 Tryz.sizeOf31) ?_
        first | refine Pa (La o31) ?_ | refine Pa (Ls o31) ?_
        refine Pa (Ga Tryz.underlying48 Tryz.sizeOf3) ?_
        first | refine Pa (La o3) ?_ | refine Pa (Ls o3) ?_
        refine Pa (Ca Tryz.call76 ((rlSetTerm_q v.va y.g y.g.term m.frm hvao).eq2 (v' := tupOf [.agg ⟨rlC v.va { y.g with term := y.g.term, vote := m.frm }⟩, .int .i64 0]) (by rw [setR_eq (Int.le_refl _) (by omega)]))) ?_
        refine Pm ?_
        refine Pa (y_extract rfl rfl) ?_
        refine Pa (y_extract rfl rfl) ?_
        refine Pa (Ga Tryz.underlying37 Tryz.sizeOf34) ?_
        refine rj_stores (vs := rlC v.va { y.g with term := y.g.term, vote := m.frm }) m34 rfl (wn0 rfl) rfl rfl (rlC_one _ hvao) fd_ (by exact (by decide : 8 ≤ 15)) rfl ?_
        refine rj_nil (hK22 _ _ _ ?_)
        refine cj_env (eL 2 rfl (eL 3 rfl (eL 4 rfl (eL 7 rfl eN)))) ?_
        refine cj_region ?_
        refine Pa (Ga Tryz.underlying37 Tryz.sizeOf3) ?_
        refine Sa o3 ?_
        refine rj_nil ?_
        refine ej_join hJ14 (({ y with g := { y.g with term := y.g.term, vote := m.frm }, patience := 0 })) (⟨hyo, ⟨hyv.va, hyv.vv, hyv.vn, hyv.vm, hyv.votes, hyv.next, hyv.mat⟩, hag⟩) (eC rfl (eC rfl (eC rfl (eC rfl eN)))) rfl sb_
        have g7 : gr = false := by simpa using hc105
        have hag : y.askedP m = y.send (ND.voteMsg m gr) := by unfold ND.askedP; rw [if_neg (by rw [← hgr, g7]; simp), g7]
        refine cj_skip ?_
        refine ej_join hJ14 (y) (⟨hyo, hyv, hag⟩) (eC rfl (eC rfl (eC rfl (eC rfl eN)))) rfl sb_
      refine cj_region ?_
      refine Pa (Ga Tryz.underlying48 Tryz.sizeOf31) ?_
      first | refine Pa (La o31) ?_ | refine Pa (Ls o31) ?_
      refine Pa (Ga Tryz.underlying37 Tryz.sizeOf34) ?_
      refine Pa (Ga Tryz.underlying34 Tryz.sizeOf31) ?_
      first | refine Pa (La o31) ?_ | refine Pa (Ls o31) ?_
      refine Pa (y_eql rfl rfl) ?_
      refine Pm ?_
      refine rj_part 83 rfl (fun hg83 => ?_) (fun hg83 => ?_)
      have g3 : m.term = y.g.term := by simpa using hg83
      refine Pb (Ga Tryz.underlying37 Tryz.sizeOf3) ?_
      first | refine Pb (La o3) ?_ | refine Pb (Ls o3) ?_
      refine Pb (y_eql rfl rfl) ?_
      refine Pa (y_pick_t rfl rfl) ?_
      refine Pm ?_
      refine rj_part 88 rfl (fun hg88 => ?_) (fun hg88 => ?_)
      first|(have g4 : y.role = 0 := by simpa using hg88)|skip
      refine Pb (Ga Tryz.underlying37 Tryz.sizeOf34) ?_
      refine Pb (Ga Tryz.underlying34 Tryz.sizeOf3) ?_
      first | refine Pb (La o3) ?_ | refine Pb (Ls o3) ?_
      refine Pb (y_eql rfl rfl) ?_
      refine Pb (y_move rfl) ?_
      refine rj_part 93 rfl (fun hg93 => ?_) (fun hg93 => ?_)
      first|(have g5 : y.g.vote = -1 := by simpa using hg93)|skip
      refine Pk ?_
      refine Pk ?_
      refine Pk ?_
      refine Pk ?_
      refine Pk ?_
      refine Pk ?_
      refine Pb (y_pick_t rfl rfl) ?_
      refine Pa (y_pick_t rfl rfl) ?_
      refine Pm ?_
      refine Pb (y_move rfl) ?_
      refine Pa (y_pick_t rfl rfl) ?_
      refine Ps ?_
      refine rj_nil ?_
      refine ej_join hJ11 (_) (by unfold ND.grants; rw [← hgd]; first|(simp [g3, g4, g5]; done)|(simp [g3, g4, g5, g6]; done)|(simp [g3, g4]; done)|(simp [g3]; done)) (eC rfl (eC rfl (eC rfl (eC rfl eN)))) rfl sb_
      first|(have g5 : ¬ y.g.vote = -1 := by simpa using hg93)|skip
      refine Pb (Ga Tryz.underlying37 Tryz.sizeOf34) ?_
      refine Pb (Ga Tryz.underlying34 Tryz.sizeOf3) ?_
      first | refine Pb (La o3) ?_ | refine Pb (Ls o3) ?_
      refine Pb (Ga Tryz.underlying48 Tryz.sizeOf3) ?_
      first | refine Pb (La o3) ?_ | refine Pb (Ls o3) ?_
      refine Pb (y_eql rfl rfl) ?_
      refine Pb (y_pick_f rfl rfl) ?_
      refine Pa (y_pick_t rfl rfl) ?_
      refine Pm ?_
      refine rj_part 102 rfl (fun hg102 => ?_) (fun hg102 => ?_)
      first|(have g6 : y.g.vote = m.frm := by simpa using hg102)|skip
      refine Pb (y_move rfl) ?_
      refine Pa (y_pick_t rfl rfl) ?_
      refine Ps ?_
      refine rj_nil ?_
      refine ej_join hJ11 (_) (by unfold ND.grants; rw [← hgd]; first|(simp [g3, g4, g5]; done)|(simp [g3, g4, g5, g6]; done)|(simp [g3, g4]; done)|(simp [g3]; done)) (eC rfl (eC rfl (eC rfl (eC rfl eN)))) rfl sb_
      first|(have g6 : ¬ y.g.vote = m.frm := by simpa using hg102)|skip
      refine Pk ?_
      refine Pa (y_pick_f rfl rfl) ?_
      refine Ps ?_
      refine rj_nil ?_
      refine ej_join hJ11 (_) (by unfold ND.grants; rw [← hgd]; first|(simp [g3, g4, g5]; done)|(simp [g3, g4, g5, g6]; done)|(simp [g3, g4]; done)|(simp [g3]; done)) (eC rfl (eC rfl (eC rfl (eC rfl eN)))) rfl sb_
      first|(have g4 : ¬ y.role = 0 := by simpa using hg88)|skip
      refine Pk ?_
      refine Pk ?_
      refine Pk ?_
      refine Pk ?_
      refine Pk ?_
      refine rj_skip (wn3 rfl rfl rfl rfl) rfl rfl ?_
      refine rj_skip (wn3 rfl rfl rfl rfl) rfl rfl ?_
      refine rj_skip (wn3 rfl rfl rfl rfl) rfl rfl ?_
      refine rj_skip (wn3 rfl rfl rfl rfl) rfl rfl ?_
      refine rj_skip (wn3 rfl rfl rfl rfl) rfl rfl ?_
      refine rj_skip (wn3 rfl rfl rfl rfl) rfl rfl ?_
      refine Pk ?_
      refine Pa (y_pick_f rfl rfl) ?_
      refine Pm ?_
      refine Pk ?_
      refine Pa (y_pick_f rfl rfl) ?_
      refine Ps ?_
      refine rj_nil ?_
      refine ej_join hJ11 (_) (by unfold ND.grants; rw [← hgd]; first|(simp [g3, g4, g5]; done)|(simp [g3, g4, g5, g6]; done)|(simp [g3, g4]; done)|(simp [g3]; done)) (eC rfl (eC rfl (eC rfl (eC rfl eN)))) rfl sb_
      have g3 : ¬ m.term = y.g.term := by simpa using hg83
      refine Pk ?_
      refine Pk ?_
      refine Pk ?_
      refine Pa (y_pick_f rfl rfl) ?_
      refine Pm ?_
      refine Pk ?_
      refine Pk ?_
      refine Pk ?_
      refine Pk ?_
      refine Pk ?_
      refine rj_skip (wn3 rfl rfl rfl rfl) rfl rfl ?_
      refine rj_skip (wn3 rfl rfl rfl rfl) rfl rfl ?_
      refine rj_skip (wn3 rfl rfl rfl rfl) rfl rfl ?_
      refine rj_skip (wn3 rfl rfl rfl rfl) rfl rfl ?_
      refine rj_skip (wn3 rfl rfl rfl rfl) rfl rfl ?_
      refine rj_skip (wn3 rfl rfl rfl rfl) rfl rfl ?_
      refine Pk ?_
      refine Pa (y_pick_f rfl rfl) ?_
      refine Pm ?_
      refine Pk ?_
      refine Pa (y_pick_f rfl rfl) ?_
      refine Ps ?_
      refine rj_nil ?_
      refine ej_join hJ11 (_) (by unfold ND.grants; rw [← hgd]; first|(simp [g3, g4, g5]; done)|(simp [g3, g4, g5, g6]; done)|(simp [g3, g4]; done)|(simp [g3]; done)) (eC rfl (eC rfl (eC rfl (eC rfl eN)))) rfl sb_
    refine cj_draw (by kernel_rfl) (by kernel_rfl) ?_
    refine Qa (Ga Tryz.underlying48 Tryz.sizeOf31) ?_
    first | refine Qa (La o31) ?_ | refine Qa (Ls o31) ?_
    refine Qa ((Lm (vs := rnC v y) m37)) ?_
    refine Qa (Ca Tryz.call77 (rlastTerm_q v y hyg hyva)) ?_
    refine Qa (y_gtr rfl rfl) ?_
    refine Qa (y_move rfl) ?_
    refine qj_part 62 rfl (fun hg62 => ?_) (fun hg62 => ?_)
    have f5 : m.logTerm > y.tAt y.g.last := by simpa using hg62
    refine Qk ?_
    refine Qk ?_
    refine Qk ?_
    refine Qk ?_
    refine Qk ?_
    refine Qk ?_
    refine qj_skip (wn3 rfl rfl rfl rfl) rfl rfl ?_
    refine qj_skip (wn3 rfl rfl rfl rfl) rfl rfl ?_
    refine qj_skip (wn3 rfl rfl rfl rfl) rfl rfl ?_
    refine qj_skip (wn3 rfl rfl rfl rfl) rfl rfl ?_
    refine qj_skip (wn3 rfl rfl rfl rfl) rfl rfl ?_
    refine qj_skip (wn3 rfl rfl rfl rfl) rfl rfl ?_
    refine Qk ?_
    refine Qa (y_pick_t rfl rfl) ?_
    refine Qa (y_assign rfl) ?_
    refine qj_nil ?_
    refine ej_join hJ10 (_) (by unfold ND.good; first|(simp [f5, f6]; done)|(simp [f5]; done)|(rw [f6] at f5 ⊢; simp)) (eC rfl (eC rfl (eC rfl (eC rfl eN)))) rfl sb_
    have f5 : ¬ m.logTerm > y.tAt y.g.last := by simpa using hg62
    refine Qb (Ga Tryz.underlying48 Tryz.sizeOf31) ?_
    first | refine Qb (La o31) ?_ | refine Qb (Ls o31) ?_
    refine Qb ((Lm (vs := rnC v y) m37)) ?_
    refine Qb (Ca Tryz.call77 (rlastTerm_q v y hyg hyva)) ?_
    refine Qb (y_eql rfl rfl) ?_
    refine Qb (y_move rfl) ?_
    refine qj_part 68 rfl (fun hg68 => ?_) (fun hg68 => ?_)
    first|(have f6 : m.logTerm = y.tAt y.g.last := by simpa using hg68)|skip
    refine Qb (Ga Tryz.underlying48 Tryz.sizeOf31) ?_
    first | refine Qb (La o31) ?_ | refine Qb (Ls o31) ?_
    refine Qb (Ga Tryz.underlying37 Tryz.sizeOf34) ?_
    refine Qb ((Lb (vs := rlC v.va y.g) m34)) ?_
    refine Qb (Ca Tryz.call75 (rlLast_q v.va y.g hyg hyva)) ?_
    refine Qb (y_geq rfl rfl) ?_
    refine Qb (y_pick_t rfl rfl) ?_
    refine Qa (y_pick_f rfl rfl) ?_
    refine Qa (y_assign rfl) ?_
    refine qj_nil ?_
    refine ej_join hJ10 (_) (by unfold ND.good; first|(simp [f5, f6]; done)|(simp [f5]; done)|(rw [f6] at f5 ⊢; simp)) (eC rfl (eC rfl (eC rfl (eC rfl eN)))) rfl sb_
    first|(have f6 : ¬ m.logTerm = y.tAt y.g.last := by simpa using hg68)|skip
    refine Qk ?_
    refine Qk ?_
    refine Qk ?_
    refine Qk ?_
    refine Qk ?_
    refine Qk ?_
    refine Qb (y_pick_f rfl rfl) ?_
    refine Qa (y_pick_f rfl rfl) ?_
    refine Qa (y_assign rfl) ?_
    refine qj_nil ?_
    refine ej_join hJ10 (_) (by unfold ND.good; first|(simp [f5, f6]; done)|(simp [f5]; done)|(rw [f6] at f5 ⊢; simp)) (eC rfl (eC rfl (eC rfl (eC rfl eN)))) rfl sb_
    have k0 : ¬ m.kind = 0 := by simpa using hc55
    refine cj_seq fun K23 hK23 => cj_region ?_
    refine Pa (y_eql rfl rfl) ?_
    refine Ps ?_
    refine rj_nil (hK23 _ _ _ ?_)
    refine cj_env (eL 2 rfl (eL 3 rfl (eL 4 rfl (eL 54 rfl (eL 128 rfl eN))))) ?_
    refine cj_cond rfl (fun hc128 => ?_) (fun hc128 => ?_)
    have k1 : m.kind = 1 := by simpa using hc128
    have hE0 : x.receiveP m = y.votedP m := by rw [hE]; unfold ND.kindP; rw [if_neg k0, if_pos k1]
    refine cj_seq fun K25 hK25 => cj_seq fun K26 hK26 => cj_region ?_
    refine Pa (Ga Tryz.underlying37 Tryz.sizeOf3) ?_
    first | refine Pa (La o3) ?_ | refine Pa (Ls o3) ?_
    refine Pa (y_neq rfl rfl) ?_
    refine Pm ?_
    refine rj_part 133 rfl (fun hg133 => ?_) (fun hg133 => ?_)
    have h0 : ¬ y.role = 1 ∨ ¬ m.term = y.g.term ∨ m.ok = false := .inl (by simpa using hg133)
    have hN : x.receiveP m = y := by rw [hE0]; unfold ND.votedP; rw [if_pos h0]
    refine Pk ?_
    refine Pk ?_
    refine Pk ?_
    refine Pk ?_
    refine Pk ?_
    refine Pk ?_
    refine Pa (y_pick_t rfl rfl) ?_
    refine Pm ?_
    refine Pk ?_
    refine Pk ?_
    refine Pk ?_
    refine Pa (y_pick_t rfl rfl) ?_
    refine rj_nil (hK26 _ _ _ (cj_cond_t rfl (cj_seq fun K27 hK27 => cj_region ?_)))
    refine Pa ((Lm (vs := rnC v y) m37)) ?_
    refine Sm (vs := rnC v y) m37 hyvo ?_
    refine Ps ?_
    refine rj_nil (hK27 _ _ _ ?_)
    refine cj_env (eL 4 rfl (eL 5 rfl eN)) ?_
    refine cj_ret (hret _ _ _ ?_)
    refine Ea Tryz.results47 (.cons (rv_cells m37 rfl fd_ rfl rfl) (.cons (rv_tmp rfl) .nil)) [] (by first | exact Hp.le_refl _ | exact Hp.le_trans hR4 hR5 | exact hR5 | exact hR4 | exact hR8 | exact hR9) ?_
    first|(rw [hN]; exact ⟨v, _, rfl, hv, by rw [ho]; exact FrX.nil, rfl⟩)|(rw [hN]; exact ⟨v, _, rfl, hyv, by rw [hyo]; exact FrX.nil, rfl⟩)|(rw [hN]; exact ⟨v, _, rfl, (hyv.mono hR8).answer m false _, by rw [answer_out hyo]; exact hfx8, rfl⟩)|(rw [hE0, hz]; exact ⟨v, _, rfl, (hzv.mono hR9).to (y := z.send (ND.voteMsg m gr)) ⟨rfl, rfl, rfl, rfl, rfl⟩, by rw [send_out hzo]; exact hfx9, rfl⟩)|(rw [hE0, hV]; exact ⟨w5, vl5, rfl, hw5, hfx5, rfl⟩)|(rw [hE0, hV]; exact ⟨w, _, rfl, hzv, by rw [hzo]; exact FrX.nil, rfl⟩)|(rw [hF0]; exact ⟨w5, vl5, rfl, hw5, hfx5, rfl⟩)
    have h1 : y.role = 1 := by simpa using hg133
    refine Pb (Ga Tryz.underlying48 Tryz.sizeOf31) ?_
    first | refine Pb (La o31) ?_ | refine Pb (Ls o31) ?_
    refine Pb (Ga Tryz.underlying37 Tryz.sizeOf34) ?_
    refine Pb (Ga Tryz.underlying34 Tryz.sizeOf31) ?_
    first | refine Pb (La o31) ?_ | refine Pb (Ls o31) ?_
    refine Pb (y_neq rfl rfl) ?_
    refine Pa (y_pick_f rfl rfl) ?_
    refine Pm ?_
    refine rj_part 141 rfl (fun hg141 => ?_) (fun hg141 => ?_)
    first|(have h0 : ¬ y.role = 1 ∨ ¬ m.term = y.g.term ∨ m.ok = false := .inr (.inl (by simpa using hg141)); have hN : x.receiveP m = y := by (rw [hE0]; unfold ND.votedP; rw [if_pos h0]))|skip
    refine Pk ?_
    refine Pk ?_
    refine Pk ?_
    refine Pa (y_pick_t rfl rfl) ?_
    refine rj_nil (hK26 _ _ _ (cj_cond_t rfl (cj_seq fun K28 hK28 => cj_region ?_)))
    refine Pa ((Lm (vs := rnC v y) m37)) ?_
    refine Sm (vs := rnC v y) m37 hyvo ?_
    refine Ps ?_
    refine rj_nil (hK28 _ _ _ (cj_ret (hret _ _ _ ?_)))
    refine Ea Tryz.results47 (.cons (rv_cells m37 rfl fd_ rfl rfl) (.cons (rv_tmp rfl) .nil)) [] (by first | exact Hp.le_refl _ | exact Hp.le_trans hR4 hR5 | exact hR5 | exact hR4 | exact hR8 | exact hR9) ?_
    first|(rw [hN]; exact ⟨v, _, rfl, hv, by rw [ho]; exact FrX.nil, rfl⟩)|(rw [hN]; exact ⟨v, _, rfl, hyv, by rw [hyo]; exact FrX.nil, rfl⟩)|(rw [hN]; exact ⟨v, _, rfl, (hyv.mono hR8).answer m false _, by rw [answer_out hyo]; exact hfx8, rfl⟩)|(rw [hE0, hz]; exact ⟨v, _, rfl, (hzv.mono hR9).to (y := z.send (ND.voteMsg m gr)) ⟨rfl, rfl, rfl, rfl, rfl⟩, by rw [send_out hzo]; exact hfx9, rfl⟩)|(rw [hE0, hV]; exact ⟨w5, vl5, rfl, hw5, hfx5, rfl⟩)|(rw [hE0, hV]; exact ⟨w, _, rfl, hzv, by rw [hzo]; exact FrX.nil, rfl⟩)|(rw [hF0]; exact ⟨w5, vl5, rfl, hw5, hfx5, rfl⟩)
    first|(have h2 : m.term = y.g.term := by simpa using hg141)|skip
    refine Pb (Ga Tryz.underlying48 Tryz.sizeOf4) ?_
    first | refine Pb (La o4) ?_ | refine Pb (Ls o4) ?_
    refine Pb (y_not rfl) ?_
    refine Pa (y_pick_f rfl rfl) ?_
    refine rj_nil (hK26 _ _ _ ?_)
    refine cj_env (eL 2 rfl (eL 3 rfl (eL 4 rfl (eL 145 rfl eN)))) ?_
    refine cj_cond rfl (fun hc145 => ?_) (fun hc145 => ?_)
    first|(have h0 : ¬ y.role = 1 ∨ ¬ m.term = y.g.term ∨ m.ok = false := .inr (.inr (by simpa using hc145)); have hN : x.receiveP m = y := by (rw [hE0]; unfold ND.votedP; rw [if_pos h0]))|skip
    refine cj_seq fun K30 hK30 => cj_region ?_
    refine Pa ((Lm (vs := rnC v y) m37)) ?_
    refine Sm (vs := rnC v y) m37 hyvo ?_
    refine Ps ?_
    refine rj_nil (hK30 _ _ _ (cj_ret (hret _ _ _ ?_)))
    refine Ea Tryz.results47 (.cons (rv_cells m37 rfl fd_ rfl rfl) (.cons (rv_tmp rfl) .nil)) [] (by first | exact Hp.le_refl _ | exact Hp.le_trans hR4 hR5 | exact hR5 | exact hR4 | exact hR8 | exact hR9) ?_
    first|(rw [hN]; exact ⟨v, _, rfl, hv, by rw [ho]; exact FrX.nil, rfl⟩)|(rw [hN]; exact ⟨v, _, rfl, hyv, by rw [hyo]; exact FrX.nil, rfl⟩)|(rw [hN]; exact ⟨v, _, rfl, (hyv.mono hR8).answer m false _, by rw [answer_out hyo]; exact hfx8, rfl⟩)|(rw [hE0, hz]; exact ⟨v, _, rfl, (hzv.mono hR9).to (y := z.send (ND.voteMsg m gr)) ⟨rfl, rfl, rfl, rfl, rfl⟩, by rw [send_out hzo]; exact hfx9, rfl⟩)|(rw [hE0, hV]; exact ⟨w5, vl5, rfl, hw5, hfx5, rfl⟩)|(rw [hE0, hV]; exact ⟨w, _, rfl, hzv, by rw [hzo]; exact FrX.nil, rfl⟩)|(rw [hF0]; exact ⟨w5, vl5, rfl, hw5, hfx5, rfl⟩)
    have h3 : m.ok = true := by simpa using hc145
    have h0 : ¬ (¬ y.role = 1 ∨ ¬ m.term = y.g.term ∨ m.ok = false) := by simp [h1, h2, h3]
    obtain ⟨cssB, heB, frB⟩ := hyv.votes h1
    have hfB := bolEls heB
    rw [hfB] at frB
    have hBl := bolV_len y.has
    have hhl := has_len y
    obtain ⟨z, hz⟩ : ∃ z, z = { y with votes := setAdd y.votes m.frm } := ⟨_, rfl⟩
    have hzin : LIn T I A z := by rw [hz]; exact hyin.vote1 hf
    have hzo : z.out = [] := by rw [hz]; exact hyo
    have hzh : z.has = y.has.set fr true := by rw [hz, hfr]; exact (has_set y fr (by omega)).symm
    have hzn : z.n = y.n := by rw [hz]
    have hzl := has_len z
    have hzc : cntB z.has z.n = z.votes.length := cntB_has hzin.votes
    have hV : y.votedP m = if 2 * (z.votes.length : Int) > y.n then z.winP else z := by rw [hz]; unfold ND.votedP; rw [if_neg h0]
    refine cj_skip (hK25 _ _ _ (cj_seq fun K31 hK31 => cj_region ?_))
    refine rj_buildSlice (sz := 1) (wn0 rfl) rfl Tryz.underlying23 Tryz.sizeOf4 Tryz.zeroValue4 rfl rfl rfl (by decide) (by decide) (fun bA => ?_)
    refine rj_turn (A := slc 4 1 (.slice (some ⟨bA, 0, none⟩) 0 0) 0 _) (B := slc 4 1 (.slice (some ⟨bA, 0, none⟩) 0 0) 0 (bolV [])) fd_ (fun h hh => hh) ?_
    refine Pa (Ga Tryz.underlying37 Tryz.sizeOf23) ?_
    first | refine Pa (La o23) ?_ | refine Pa (Ls o23) ?_
    refine rj_append (sz := 1) (by_ := 1) ⟨Tryz.underlying23, _, _, rfl, rfl, rfl, rfl, rfl⟩ (wn0 rfl) rfl rfl rfl fd_ ((FrX.src (T := bolE) Tryz.underlying23 (l := y.has) (css := cssB) heB (by rw [hfB]; exact frB))) rfl om_ (by simp only [maxLen]; omega) (fun v150 ho150 hh150 => ?_)
    rw [hfB, show bolV [] ++ bolV y.has = bolV y.has from rfl, show 0 + y.has.length = y.has.length from Nat.zero_add _]
    refine Pa (Ga Tryz.underlying37 Tryz.sizeOf23) ?_
    refine Sa o23 ?_
    refine rj_nil (hK31 _ _ _ (cj_seq fun K32 hK32 => cj_region ?_))
    refine Pa (Ga Tryz.underlying37 Tryz.sizeOf23) ?_
    first | refine Pa (La o23) ?_ | refine Pa (Ls o23) ?_
    refine Pa (Ga Tryz.underlying48 Tryz.sizeOf3) ?_
    first | refine Pa (La o3) ?_ | refine Pa (Ls o3) ?_
    refine Pa ((y_index_slc Tryz.underlying23 Tryz.sizeOf4 rfl rfl fd_ (by omega))) ?_
    refine rj_store_slc (ys := bolV z.has) o4 (wn0 rfl) rfl rfl rfl fd_ (by omega) (by rw [hzh, bolV_set _ fr m.frm hfr]) (by omega) ?_
    refine rj_nil (hK32 _ _ _ (cj_seq fun K33 hK33 => ?_))
    refine cj_turnA (A := blk b2 _ 37) (B := blk b2 (rnC { v with vv := v150 } z) 37) fd_ (fun h hh => by rw [hz]; exact hh) ?_
    refine cj_freeze (e := 4) (sz := 1) (n := y.has.length) (v := v150) (xs := bolV z.has) fd_ (fun R4 hR4 hfr4 hxl4 => ?_)
    obtain ⟨w, hw⟩ : ∃ w : RW, w = { v with vv := v150 } := ⟨_, rfl⟩
    rw [← hw]
    have hzB : FrX bolE R4 z.has v150 := bolFr (by rw [hzl, hzn, ← hhl]; exact hfr4)
    have hzv : RNOk R4 w z := by rw [hw, hz]; exact ⟨hyva.mono hR4, by assumption, hyv.vn, hyv.vm, fun _ => by rw [hz] at hzB; exact hzB, fun h => by have h9 : y.role = 2 := h; omega, fun h => by have h9 : y.role = 2 := h; omega⟩
    have hzvo := rnC_one hzv
    have hwv : w.vv = v150 := by rw [hw]
    obtain ⟨qz, cz, hqz, _, _⟩ := hzB.shape
    refine cj_region ?_
    refine Ps ?_
    refine rj_nil (hK33 _ _ _ (cj_seq fun K34 hK34 => cj_seq fun K35 hK35 => cj_region ?_))
    refine Ps ?_
    refine rj_nil (hK35 _ _ _ (cj_block ?_))
    refine cj_env (E' := (fun (x24 : Nat) => [(2, .pointer (some ⟨b2, 0, none⟩)), (4, .pointer (some ⟨b4, 0, none⟩)), (9, .int .i64 (cntB z.has x24 : Int)), (10, .int .i64 (x24 : Int))]) 0) (eC rfl (eC rfl (eC rfl (eC rfl eN)))) ?_
    refine cj_sub (M := (fun (x24 : Nat) => blk b2 (rnC w z) 37 :: blk b3 (msgC m ve) 48 :: blk b4 rn0 37 :: F) 0) sb_ ?_
    refine cj_loop (fun (x24 : Nat) => [(2, .pointer (some ⟨b2, 0, none⟩)), (4, .pointer (some ⟨b4, 0, none⟩)), (9, .int .i64 (cntB z.has x24 : Int)), (10, .int .i64 (x24 : Int))]) (fun (x24 : Nat) => R4) (fun (x24 : Nat) => blk b2 (rnC w z) 37 :: blk b3 (msgC m ve) 48 :: blk b4 rn0 37 :: F) (fun (x24 : Nat) => x24 ≤ z.n) (fun (x24 : Nat) => z.n - x24) 0 (by simp) ?_
    rintro c hc
    try dsimp only
    refine cj_seq fun K36 hK36 => cj_seq fun K37 hK37 => cj_region ?_
    refine Pm ?_
    refine Pa (Ga Tryz.underlying37 Tryz.sizeOf3) ?_
    first | refine Pa (La o3) ?_ | refine Pa (Ls o3) ?_
    refine Pa (y_lss rfl rfl) ?_
    refine rj_nil (hK37 _ _ _ ?_)
    refine cj_cond rfl (fun hc160 => ?_) (fun hc160 => ?_)
    try simp only [dT, dF, nT, nF, tF, fT] at hc160
    refine cj_skip (hK36 _ _ _ (cj_seq fun K39 hK39 => cj_block (cj_seq fun K40 hK40 => ?_)))
    have hcn : c < z.n := by (try simp at hc160); omega
    have hcs := cntB_succ (l := z.has) (c := c) (by omega)
    have hcle := cntB_le z.has c
    obtain ⟨bz, oz, cz2, csz, hez, rfl, _, hcelz⟩ := hzB.at (List.getElem?_eq_getElem (show c < z.has.length by omega))
    replace hcelz : Hp.cell R4 ⟨bz, oz + c * 1, none⟩ = some (.bool (z.has.getD c false)) := by have := hcelz 0 _ rfl; rw [List.getD_eq_getElem?_getD, List.getElem?_eq_getElem (show c < z.has.length by omega)]; exact this
    rw [← hwv] at hez
    refine cj_region ?_
    refine Pa (Ga Tryz.underlying37 Tryz.sizeOf23) ?_
    refine Pa ((Yld.to (u := .slice (some ⟨bz, oz, none⟩) z.has.length cz2) (La o23) hez)) ?_
    refine Pm ?_
    refine Pa ((y_indexAddr Tryz.underlying23 Tryz.sizeOf4 rfl rfl (by omega))) ?_
    refine Pa ((y_load_ro o4 rfl (by rw [show ((c : Nat) : Int).toNat = c by simp]; exact hcelz))) ?_
    refine rj_nil (hK40 _ _ _ ?_)
    refine cj_env (eL 2 rfl (eL 4 rfl (eL 9 rfl (eL 10 rfl (eL 167 rfl eN))))) ?_
    refine cj_cond rfl (fun hc167 => ?_) (fun hc167 => ?_)
    rw [if_pos hc167] at hcs
    refine cj_region ?_
    refine Pm ?_
    refine Pa ((Yld.to (u := .int .i64 (cntB z.has (c + 1) : Int)) (y_add64 rfl rfl (by omega)) (by rw [hcs]; simp))) ?_
    refine Ps ?_
    refine rj_nil (hK39 _ _ _ (cj_region ?_))
    refine Pm ?_
    first | refine Pa (y_add64 rfl rfl om_) ?_ | refine Pa (y_add rfl rfl) ?_
    refine Ps ?_
    refine rj_nil ?_
    refine ej_on (q' := roundK _ _ _ _ _ _ _) rfl ?_
    refine ej_round (c + 1) (by omega) (by omega) (eC rfl (eC rfl (eC rfl (eC rfl eN)))) rfl sb_
    rw [if_neg (fun h => by rw [hc167] at h; cases h)] at hcs
    rw [← hcs]
    refine cj_skip (hK39 _ _ _ (cj_region ?_))
    refine Pm ?_
    first | refine Pa (y_add64 rfl rfl om_) ?_ | refine Pa (y_add rfl rfl) ?_
    refine Ps ?_
    refine rj_nil ?_
    refine ej_on (q' := roundK _ _ _ _ _ _ _) rfl ?_
    refine ej_round (c + 1) (by omega) (by omega) (eC rfl (eC rfl (eC rfl (eC rfl eN)))) rfl sb_
    try simp only [dT, dF, nT, nF, tF, fT] at hc160
    refine cj_exit (hK34 _ _ _ (cj_seq fun K42 hK42 => cj_seq fun K43 hK43 => ?_))
    obtain rfl : c = z.n := by (try simp at hc160); omega
    rw [hzc]
    have hvl := nodup_lt z.n _ hzin.votes.1 hzin.votes.2
    refine cj_region ?_
    refine Pm ?_
    refine Pa ((y_mul64 rfl rfl (by omega))) ?_
    refine Pa (Ga Tryz.underlying37 Tryz.sizeOf3) ?_
    first | refine Pa (La o3) ?_ | refine Pa (Ls o3) ?_
    refine Pa (y_gtr rfl rfl) ?_
    refine rj_nil (hK43 _ _ _ ?_)
    refine cj_cond rfl (fun hc174 => ?_) (fun hc174 => ?_)
    have h5 : 2 * (z.votes.length : Int) > y.n := by (try simp at hc174); omega
    rw [if_pos h5] at hV
    refine cj_seq fun K45 hK45 => cj_region ?_
    refine Pa ((Lm (vs := rnC w z) m37)) ?_
    refine Ra Tryz.call79 (rwin_t w z hzin hB1 hzo hzv) ?_
    rintro r R5 L' hR5 ⟨w5, vl5, rfl, hw5, hfx5, rfl⟩
    have hw5o := rnC_one hw5
    have hfo5 := hfx5.one
    try simp only [cA, nA]
    refine Pa (y_extract rfl rfl) ?_
    refine Pa (y_extract rfl rfl) ?_
    refine Sm (vs := rnC w5 z.winP) m37 hw5o ?_
    refine Ps ?_
    refine rj_nil (hK45 _ _ _ ?_)
    refine cj_env (eL 4 rfl (eL 5 rfl eN)) ?_
    refine cj_ret (hret _ _ _ ?_)
    refine Ea Tryz.results47 (.cons (rv_cells m37 rfl fd_ rfl rfl) (.cons (rv_tmp rfl) .nil)) [] (by first | exact Hp.le_refl _ | exact Hp.le_trans hR4 hR5 | exact hR5 | exact hR4 | exact hR8 | exact hR9) ?_
    first|(rw [hN]; exact ⟨v, _, rfl, hv, by rw [ho]; exact FrX.nil, rfl⟩)|(rw [hN]; exact ⟨v, _, rfl, hyv, by rw [hyo]; exact FrX.nil, rfl⟩)|(rw [hN]; exact ⟨v, _, rfl, (hyv.mono hR8).answer m false _, by rw [answer_out hyo]; exact hfx8, rfl⟩)|(rw [hE0, hz]; exact ⟨v, _, rfl, (hzv.mono hR9).to (y := z.send (ND.voteMsg m gr)) ⟨rfl, rfl, rfl, rfl, rfl⟩, by rw [send_out hzo]; exact hfx9, rfl⟩)|(rw [hE0, hV]; exact ⟨w5, vl5, rfl, hw5, hfx5, rfl⟩)|(rw [hE0, hV]; exact ⟨w, _, rfl, hzv, by rw [hzo]; exact FrX.nil, rfl⟩)|(rw [hF0]; exact ⟨w5, vl5, rfl, hw5, hfx5, rfl⟩)
    have h5 : ¬ 2 * (z.votes.length : Int) > y.n := by (try simp at hc174); omega
    rw [if_neg h5] at hV
    refine cj_skip (hK42 _ _ _ (cj_seq fun K46 hK46 => cj_region ?_))
    refine Pa ((Lm (vs := rnC w z) m37)) ?_
    refine Sm (vs := rnC w z) m37 hzvo ?_
    refine Ps ?_
    refine rj_nil (hK46 _ _ _ (cj_ret (hret _ _ _ ?_)))
    refine Ea Tryz.results47 (.cons (rv_cells m37 rfl fd_ rfl rfl) (.cons (rv_tmp rfl) .nil)) [] (by first | exact Hp.le_refl _ | exact Hp.le_trans hR4 hR5 | exact hR5 | exact hR4 | exact hR8 | exact hR9) ?_
    first|(rw [hN]; exact ⟨v, _, rfl, hv, by rw [ho]; exact FrX.nil, rfl⟩)|(rw [hN]; exact ⟨v, _, rfl, hyv, by rw [hyo]; exact FrX.nil, rfl⟩)|(rw [hN]; exact ⟨v, _, rfl, (hyv.mono hR8).answer m false _, by rw [answer_out hyo]; exact hfx8, rfl⟩)|(rw [hE0, hz]; exact ⟨v, _, rfl, (hzv.mono hR9).to (y := z.send (ND.voteMsg m gr)) ⟨rfl, rfl, rfl, rfl, rfl⟩, by rw [send_out hzo]; exact hfx9, rfl⟩)|(rw [hE0, hV]; exact ⟨w5, vl5, rfl, hw5, hfx5, rfl⟩)|(rw [hE0, hV]; exact ⟨w, _, rfl, hzv, by rw [hzo]; exact FrX.nil, rfl⟩)|(rw [hF0]; exact ⟨w5, vl5, rfl, hw5, hfx5, rfl⟩)
    have k1 : ¬ m.kind = 1 := by simpa using hc128
    refine cj_seq fun K47 hK47 => cj_seq fun K48 hK48 => cj_region ?_
    refine Pa (y_eql rfl rfl) ?_
    refine Ps ?_
    refine rj_nil (hK48 _ _ _ ?_)
    refine cj_cond rfl (fun hc180 => ?_) (fun hc180 => ?_)
    first|(have k2 : m.kind = 2 := by simpa using hc180)|(have k4 : m.kind = 4 := by simpa using hc180)
    have k24 : m.kind = 2 ∨ m.kind = 4 := by omega
    have hE0 : x.receiveP m = y.fedP m := by rw [hE]; unfold ND.kindP; rw [if_neg k0, if_neg k1, if_pos k24]
    refine cj_skip (hK47 _ _ _ ?_)
    refine cj_cond rfl (fun hc180 => ?_) (fun hc180 => ?_)
    first|(have k2 : m.kind = 2 := by simpa using hc180)|(have k4 : m.kind = 4 := by simpa using hc180)
    have k24 : m.kind = 2 ∨ m.kind = 4 := by omega
    have hE0 : x.receiveP m = y.fedP m := by rw [hE]; unfold ND.kindP; rw [if_neg k0, if_neg k1, if_pos k24]
    refine cj_seq fun K51 hK51 => cj_seq fun K52 hK52 => cj_region ?_
    refine Pa (Ga Tryz.underlying48 Tryz.sizeOf31) ?_
    first | refine Pa (La o31) ?_ | refine Pa (Ls o31) ?_
    refine Pa (Ga Tryz.underlying37 Tryz.sizeOf34) ?_
    refine Pa (Ga Tryz.underlying34 Tryz.sizeOf31) ?_
    first | refine Pa (La o31) ?_ | refine Pa (Ls o31) ?_
    refine Pa (y_lss rfl rfl) ?_
    refine rj_nil (hK52 _ _ _ ?_)
    refine cj_cond rfl (fun hc188 => ?_) (fun hc188 => ?_)
    have h1 : m.term < y.g.term := by simpa using hc188
    have hN : x.receiveP m = y.answer m false 0 := by rw [hE0]; unfold ND.fedP; rw [if_pos h1]
    refine cj_seq fun K54 hK54 => ?_
    refine cj_mixg (L := [blk b2 (rnC v y) 37, blk b3 (msgC m ve) 48]) [0, 1, 2, 3] [4] [5, 6] _ sb_ (by kernel_rfl) (by kernel_rfl) (by kernel_rfl) rfl ?_
    refine Wa rfl (fun R1 hR1 G => (Lm (vs := rnC v y) m37)) ?_
    refine Wa rfl (fun R1 hR1 G => (Lm (vs := rnC v y) m37)) ?_
    refine Wa rfl (fun R1 hR1 G => (Ga Tryz.underlying48 Tryz.sizeOf3)) ?_
    first | refine Wa rfl (fun R1 hR1 G => (La o3)) ?_ | refine Wa rfl (fun R1 hR1 G => (Ls o3)) ?_
    refine fj_nil ?_
    refine xj_rj rfl ?_
    try simp only [cA, nA, List.append_nil]
    refine Ra Tryz.call80 (rappended_t v y m false 0 hyv) ?_
    rintro r R8 L' hR8 ⟨hfx8, rfl⟩
    have hfo8 := hfx8.one
    try simp only [cA, nA]
    refine rj_xk le_ sb_ ?_
    refine xj_nil ?_
    try simp only [cA, nA, List.append_nil]
    refine Sm (vs := rnC v y) m37 hyvo ?_
    refine Ps ?_
    refine rj_nil (hK54 _ _ _ (cj_ret (hret _ _ _ ?_)))
    refine Ea Tryz.results47 (.cons (rv_cells m37 rfl fd_ rfl rfl) (.cons (rv_tmp rfl) .nil)) [] (by first | exact Hp.le_refl _ | exact Hp.le_trans hR4 hR5 | exact hR5 | exact hR4 | exact hR8 | exact hR9) ?_
    first|(rw [hN]; exact ⟨v, _, rfl, hv, by rw [ho]; exact FrX.nil, rfl⟩)|(rw [hN]; exact ⟨v, _, rfl, hyv, by rw [hyo]; exact FrX.nil, rfl⟩)|(rw [hN]; exact ⟨v, _, rfl, (hyv.mono hR8).answer m false _, by rw [answer_out hyo]; exact hfx8, rfl⟩)|(rw [hE0, hz]; exact ⟨v, _, rfl, (hzv.mono hR9).to (y := z.send (ND.voteMsg m gr)) ⟨rfl, rfl, rfl, rfl, rfl⟩, by rw [send_out hzo]; exact hfx9, rfl⟩)|(rw [hE0, hV]; exact ⟨w5, vl5, rfl, hw5, hfx5, rfl⟩)|(rw [hE0, hV]; exact ⟨w, _, rfl, hzv, by rw [hzo]; exact FrX.nil, rfl⟩)|(rw [hF0]; exact ⟨w5, vl5, rfl, hw5, hfx5, rfl⟩)
    have h1 : ¬ m.term < y.g.term := by simpa using hc188
    refine cj_skip (hK51 _ _ _ (cj_seq fun K55 hK55 => cj_seq fun K56 hK56 => cj_region ?_))
    refine Pa (Ga Tryz.underlying37 Tryz.sizeOf3) ?_
    first | refine Pa (La o3) ?_ | refine Pa (Ls o3) ?_
    refine Pa (y_eql rfl rfl) ?_
    refine rj_nil (hK56 _ _ _ ?_)
    refine cj_env (eL 2 rfl (eL 3 rfl (eL 4 rfl (eL 196 rfl eN)))) ?_
    refine cj_cond rfl (fun hc196 => ?_) (fun hc196 => ?_)
    have h2 : y.role = 2 := by simpa using hc196
    have hN : x.receiveP m = y := by rw [hE0]; unfold ND.fedP; rw [if_neg h1, if_pos h2]
    refine cj_seq fun K58 hK58 => cj_region ?_
    refine Pa ((Lm (vs := rnC v y) m37)) ?_
    refine Sm (vs := rnC v y) m37 hyvo ?_
    refine Ps ?_
    refine rj_nil (hK58 _ _ _ (cj_ret (hret _ _ _ ?_)))
    refine Ea Tryz.results47 (.cons (rv_cells m37 rfl fd_ rfl rfl) (.cons (rv_tmp rfl) .nil)) [] (by first | exact Hp.le_refl _ | exact Hp.le_trans hR4 hR5 | exact hR5 | exact hR4 | exact hR8 | exact hR9) ?_
    first|(rw [hN]; exact ⟨v, _, rfl, hv, by rw [ho]; exact FrX.nil, rfl⟩)|(rw [hN]; exact ⟨v, _, rfl, hyv, by rw [hyo]; exact FrX.nil, rfl⟩)|(rw [hN]; exact ⟨v, _, rfl, (hyv.mono hR8).answer m false _, by rw [answer_out hyo]; exact hfx8, rfl⟩)|(rw [hE0, hz]; exact ⟨v, _, rfl, (hzv.mono hR9).to (y := z.send (ND.voteMsg m gr)) ⟨rfl, rfl, rfl, rfl, rfl⟩, by rw [send_out hzo]; exact hfx9, rfl⟩)|(rw [hE0, hV]; exact ⟨w5, vl5, rfl, hw5, hfx5, rfl⟩)|(rw [hE0, hV]; exact ⟨w, _, rfl, hzv, by rw [hzo]; exact FrX.nil, rfl⟩)|(rw [hF0]; exact ⟨w5, vl5, rfl, hw5, hfx5, rfl⟩)
    have h2 : ¬ y.role = 2 := by simpa using hc196
    have hF0 : x.receiveP m = if m.kind = 2 then (y.follows m).addP m else (y.follows m).snapP m := by rw [hE0]; unfold ND.fedP; rw [if_neg h1, if_neg h2]
    have hfin := LIn.follows (m := m) hyin
    have hfv : RNOk R v (y.follows m) := ⟨hyv.va, hyv.vv, hyv.vn, hyv.vm, fun h => absurd (show (0 : Int) = 1 from h) (by decide), fun h => absurd (show (0 : Int) = 2 from h) (by decide), fun h => absurd (show (0 : Int) = 2 from h) (by decide)⟩
    have hfvo := rnC_one hfv
    refine cj_skip (hK55 _ _ _ (cj_seq fun K59 hK59 => cj_region ?_))
    refine Pa ((Lm (vs := rnC v y) m37)) ?_
    refine Pa (Ga Tryz.underlying48 Tryz.sizeOf3) ?_
    first | refine Pa (La o3) ?_ | refine Pa (Ls o3) ?_
    refine Pa (Ca Tryz.call81 (rfollows_q v y m hyv)) ?_
    refine Sm (vs := rnC v (y.follows m)) m37 hfvo ?_
    refine rj_nil (hK59 _ _ _ (cj_seq fun K60 hK60 => cj_seq fun K61 hK61 => cj_region ?_))
    refine Pa (Ga Tryz.underlying48 Tryz.sizeOf3) ?_
    first | refine Pa (La o3) ?_ | refine Pa (Ls o3) ?_
    refine Pa (y_eql rfl rfl) ?_
    refine rj_nil (hK61 _ _ _ ?_)
    refine cj_cond rfl (fun hc204 => ?_) (fun hc204 => ?_)
    have k5 : ¬ m.kind = 2 := by (try simp at hc204); omega
    rw [if_neg k5] at hF0
    refine cj_seq fun K63 hK63 => cj_region ?_
    refine Pa ((Lm (vs := rnC v (y.follows m)) m37)) ?_
    refine Pa ((Lm (vs := msgC m ve) m48)) ?_
    refine Ra Tryz.call82 (rsnap_t v (y.follows m) m ve hfin.inn hB0 rfl hyo hfv hm hve) ?_
    rintro r R5 L' hR5 ⟨w5, vl5, rfl, hw5, hfx5, rfl⟩
    have hw5o := rnC_one hw5
    have hfo5 := hfx5.one
    try simp only [cA, nA]
    refine Pa (y_extract rfl rfl) ?_
    refine Pa (y_extract rfl rfl) ?_
    refine Sm (vs := rnC w5 ((y.follows m).snapP m)) m37 hw5o ?_
    refine Ps ?_
    refine rj_nil (hK63 _ _ _ (cj_ret (hret _ _ _ ?_)))
    refine Ea Tryz.results47 (.cons (rv_cells m37 rfl fd_ rfl rfl) (.cons (rv_tmp rfl) .nil)) [] (by first | exact Hp.le_refl _ | exact Hp.le_trans hR4 hR5 | exact hR5 | exact hR4 | exact hR8 | exact hR9) ?_
    first|(rw [hN]; exact ⟨v, _, rfl, hv, by rw [ho]; exact FrX.nil, rfl⟩)|(rw [hN]; exact ⟨v, _, rfl, hyv, by rw [hyo]; exact FrX.nil, rfl⟩)|(rw [hN]; exact ⟨v, _, rfl, (hyv.mono hR8).answer m false _, by rw [answer_out hyo]; exact hfx8, rfl⟩)|(rw [hE0, hz]; exact ⟨v, _, rfl, (hzv.mono hR9).to (y := z.send (ND.voteMsg m gr)) ⟨rfl, rfl, rfl, rfl, rfl⟩, by rw [send_out hzo]; exact hfx9, rfl⟩)|(rw [hE0, hV]; exact ⟨w5, vl5, rfl, hw5, hfx5, rfl⟩)|(rw [hE0, hV]; exact ⟨w, _, rfl, hzv, by rw [hzo]; exact FrX.nil, rfl⟩)|(rw [hF0]; exact ⟨w5, vl5, rfl, hw5, hfx5, rfl⟩)
    have k5 : m.kind = 2 := by (try simp at hc204); omega
    rw [if_pos k5] at hF0
    refine cj_skip (hK60 _ _ _ (cj_seq fun K64 hK64 => cj_region ?_))
    refine Pa ((Lm (vs := rnC v (y.follows m)) m37)) ?_
    refine Pa ((Lm (vs := msgC m ve) m48)) ?_
    refine Ra Tryz.call83 (radd_t v (y.follows m) m ve hfin.inn hB rfl hyo hfv hm hmc hve) ?_
    rintro r R5 L' hR5 ⟨w5, vl5, rfl, hw5, hfx5, rfl⟩
    have hw5o := rnC_one hw5
    have hfo5 := hfx5.one
    try simp only [cA, nA]
    refine Pa (y_extract rfl rfl) ?_
    refine Pa (y_extract rfl rfl) ?_
    refine Sm (vs := rnC w5 ((y.follows m).addP m)) m37 hw5o ?_
    refine Ps ?_
    refine rj_nil (hK64 _ _ _ ?_)
    refine cj_env (eL 4 rfl (eL 5 rfl eN)) ?_
    refine cj_ret (hret _ _ _ ?_)
    refine Ea Tryz.results47 (.cons (rv_cells m37 rfl fd_ rfl rfl) (.cons (rv_tmp rfl) .nil)) [] (by first | exact Hp.le_refl _ | exact Hp.le_trans hR4 hR5 | exact hR5 | exact hR4 | exact hR8 | exact hR9) ?_
    first|(rw [hN]; exact ⟨v, _, rfl, hv, by rw [ho]; exact FrX.nil, rfl⟩)|(rw [hN]; exact ⟨v, _, rfl, hyv, by rw [hyo]; exact FrX.nil, rfl⟩)|(rw [hN]; exact ⟨v, _, rfl, (hyv.mono hR8).answer m false _, by rw [answer_out hyo]; exact hfx8, rfl⟩)|(rw [hE0, hz]; exact ⟨v, _, rfl, (hzv.mono hR9).to (y := z.send (ND.voteMsg m gr)) ⟨rfl, rfl, rfl, rfl, rfl⟩, by rw [send_out hzo]; exact hfx9, rfl⟩)|(rw [hE0, hV]; exact ⟨w5, vl5, rfl, hw5, hfx5, rfl⟩)|(rw [hE0, hV]; exact ⟨w, _, rfl, hzv, by rw [hzo]; exact FrX.nil, rfl⟩)|(rw [hF0]; exact ⟨w5, vl5, rfl, hw5, hfx5, rfl⟩)
    first|(have k2 : ¬ m.kind = 2 := by simpa using hc180)|(have k4 : ¬ m.kind = 4 := by simpa using hc180)
    refine cj_seq fun K65 hK65 => cj_region ?_
    refine Pa (y_eql rfl rfl) ?_
    refine Ps ?_
    refine rj_nil (hK65 _ _ _ ?_)
    refine cj_cond rfl (fun hc215 => ?_) (fun hc215 => ?_)
    have k3 : m.kind = 3 := by simpa using hc215
    have hF0 : x.receiveP m = y.heardP m := by rw [hE]; unfold ND.kindP; rw [if_neg k0, if_neg k1, if_neg (by omega), if_pos k3]
    refine cj_seq fun K67 hK67 => cj_region ?_
    refine Pa ((Lm (vs := rnC v y) m37)) ?_
    refine Pa ((Lm (vs := msgC m ve) m48)) ?_
    refine Ra Tryz.call84 (rheard_t v y m ve hyin hB0 hyo hyv hm hf hve) ?_
    rintro r R5 L' hR5 ⟨w5, vl5, rfl, hw5, hfx5, rfl⟩
    have hw5o := rnC_one hw5
    have hfo5 := hfx5.one
    try simp only [cA, nA]
    refine Pa (y_extract rfl rfl) ?_
    refine Pa (y_extract rfl rfl) ?_
    refine Sm (vs := rnC w5 (y.heardP m)) m37 hw5o ?_
    refine Ps ?_
    refine rj_nil (hK67 _ _ _ (cj_ret (hret _ _ _ ?_)))
    refine Ea Tryz.results47 (.cons (rv_cells m37 rfl fd_ rfl rfl) (.cons (rv_tmp rfl) .nil)) [] (by first | exact Hp.le_refl _ | exact Hp.le_trans hR4 hR5 | exact hR5 | exact hR4 | exact hR8 | exact hR9) ?_
    first|(rw [hN]; exact ⟨v, _, rfl, hv, by rw [ho]; exact FrX.nil, rfl⟩)|(rw [hN]; exact ⟨v, _, rfl, hyv, by rw [hyo]; exact FrX.nil, rfl⟩)|(rw [hN]; exact ⟨v, _, rfl, (hyv.mono hR8).answer m false _, by rw [answer_out hyo]; exact hfx8, rfl⟩)|(rw [hE0, hz]; exact ⟨v, _, rfl, (hzv.mono hR9).to (y := z.send (ND.voteMsg m gr)) ⟨rfl, rfl, rfl, rfl, rfl⟩, by rw [send_out hzo]; exact hfx9, rfl⟩)|(rw [hE0, hV]; exact ⟨w5, vl5, rfl, hw5, hfx5, rfl⟩)|(rw [hE0, hV]; exact ⟨w, _, rfl, hzv, by rw [hzo]; exact FrX.nil, rfl⟩)|(rw [hF0]; exact ⟨w5, vl5, rfl, hw5, hfx5, rfl⟩)
    have k3 : ¬ m.kind = 3 := by simpa using hc215
    have hN : x.receiveP m = y := by rw [hE]; unfold ND.kindP; rw [if_neg k0, if_neg k1, if_neg (by omega), if_neg k3]
    refine cj_skip (hK10 _ _ _ (cj_seq fun K68 hK68 => cj_region ?_))
    refine Pa ((Lm (vs := rnC v y) m37)) ?_
    refine Sm (vs := rnC v y) m37 hyvo ?_
    refine Ps ?_
    refine rj_nil (hK68 _ _ _ (cj_ret (hret _ _ _ ?_)))
    refine Ea Tryz.results47 (.cons (rv_cells m37 rfl fd_ rfl rfl) (.cons (rv_tmp rfl) .nil)) [] (by first | exact Hp.le_refl _ | exact Hp.le_trans hR4 hR5 | exact hR5 | exact hR4 | exact hR8 | exact hR9) ?_
    first|(rw [hN]; exact ⟨v, _, rfl, hv, by rw [ho]; exact FrX.nil, rfl⟩)|(rw [hN]; exact ⟨v, _, rfl, hyv, by rw [hyo]; exact FrX.nil, rfl⟩)|(rw [hN]; exact ⟨v, _, rfl, (hyv.mono hR8).answer m false _, by rw [answer_out hyo]; exact hfx8, rfl⟩)|(rw [hE0, hz]; exact ⟨v, _, rfl, (hzv.mono hR9).to (y := z.send (ND.voteMsg m gr)) ⟨rfl, rfl, rfl, rfl, rfl⟩, by rw [send_out hzo]; exact hfx9, rfl⟩)|(rw [hE0, hV]; exact ⟨w5, vl5, rfl, hw5, hfx5, rfl⟩)|(rw [hE0, hV]; exact ⟨w, _, rfl, hzv, by rw [hzo]; exact FrX.nil, rfl⟩)|(rw [hF0]; exact ⟨w5, vl5, rfl, hw5, hfx5, rfl⟩)
    first|(have k2 : ¬ m.kind = 2 := by simpa using hc180)|(have k4 : ¬ m.kind = 4 := by simpa using hc180)
    refine cj_region ?_
    refine Pa (y_eql rfl rfl) ?_
    refine Ps ?_
    refine rj_nil (hK47 _ _ _ ?_)
    refine cj_cond rfl (fun hc180 => ?_) (fun hc180 => ?_)
    first|(have k2 : m.kind = 2 := by simpa using hc180)|(have k4 : m.kind = 4 := by simpa using hc180)
    have k24 : m.kind = 2 ∨ m.kind = 4 := by omega
    have hE0 : x.receiveP m = y.fedP m := by rw [hE]; unfold ND.kindP; rw [if_neg k0, if_neg k1, if_pos k24]
    refine cj_seq fun K70 hK70 => cj_seq fun K71 hK71 => cj_region ?_
    refine Pa (Ga Tryz.underlying48 Tryz.sizeOf31) ?_
    first | refine Pa (La o31) ?_ | refine Pa (Ls o31) ?_
    refine Pa (Ga Tryz.underlying37 Tryz.sizeOf34) ?_
    refine Pa (Ga Tryz.underlying34 Tryz.sizeOf31) ?_
    first | refine Pa (La o31) ?_ | refine Pa (Ls o31) ?_
    refine Pa (y_lss rfl rfl) ?_
    refine rj_nil (hK71 _ _ _ ?_)
    refine cj_cond rfl (fun hc188 => ?_) (fun hc188 => ?_)
    have h1 : m.term < y.g.term := by simpa using hc188
    have hN : x.receiveP m = y.answer m false 0 := by rw [hE0]; unfold ND.fedP; rw [if_pos h1]
    refine cj_seq fun K73 hK73 => ?_
    refine cj_mixg (L := [blk b2 (rnC v y) 37, blk b3 (msgC m ve) 48]) [0, 1, 2, 3] [4] [5, 6] _ sb_ (by kernel_rfl) (by kernel_rfl) (by kernel_rfl) rfl ?_
    refine Wa rfl (fun R1 hR1 G => (Lm (vs := rnC v y) m37)) ?_
    refine Wa rfl (fun R1 hR1 G => (Lm (vs := rnC v y) m37)) ?_
    refine Wa rfl (fun R1 hR1 G => (Ga Tryz.underlying48 Tryz.sizeOf3)) ?_
    first | refine Wa rfl (fun R1 hR1 G => (La o3)) ?_ | refine Wa rfl (fun R1 hR1 G => (Ls o3)) ?_
    refine fj_nil ?_
    refine xj_rj rfl ?_
    try simp only [cA, nA, List.append_nil]
    refine Ra Tryz.call80 (rappended_t v y m false 0 hyv) ?_
    rintro r R8 L' hR8 ⟨hfx8, rfl⟩
    have hfo8 := hfx8.one
    try simp only [cA, nA]
    refine rj_xk le_ sb_ ?_
    refine xj_nil ?_
    try simp only [cA, nA, List.append_nil]
    refine Sm (vs := rnC v y) m37 hyvo ?_
    refine Ps ?_
    refine rj_nil (hK73 _ _ _ ?_)
    refine cj_env (eL 4 rfl (eL 5 rfl eN)) ?_
    refine cj_ret (hret _ _ _ ?_)
    refine Ea Tryz.results47 (.cons (rv_cells m37 rfl fd_ rfl rfl) (.cons (rv_tmp rfl) .nil)) [] (by first | exact Hp.le_refl _ | exact Hp.le_trans hR4 hR5 | exact hR5 | exact hR4 | exact hR8 | exact hR9) ?_
    first|(rw [hN]; exact ⟨v, _, rfl, hv, by rw [ho]; exact FrX.nil, rfl⟩)|(rw [hN]; exact ⟨v, _, rfl, hyv, by rw [hyo]; exact FrX.nil, rfl⟩)|(rw [hN]; exact ⟨v, _, rfl, (hyv.mono hR8).answer m false _, by rw [answer_out hyo]; exact hfx8, rfl⟩)|(rw [hE0, hz]; exact ⟨v, _, rfl, (hzv.mono hR9).to (y := z.send (ND.voteMsg m gr)) ⟨rfl, rfl, rfl, rfl, rfl⟩, by rw [send_out hzo]; exact hfx9, rfl⟩)|(rw [hE0, hV]; exact ⟨w5, vl5, rfl, hw5, hfx5, rfl⟩)|(rw [hE0, hV]; exact ⟨w, _, rfl, hzv, by rw [hzo]; exact FrX.nil, rfl⟩)|(rw [hF0]; exact ⟨w5, vl5, rfl, hw5, hfx5, rfl⟩)
    have h1 : ¬ m.term < y.g.term := by simpa using hc188
    refine cj_skip (hK70 _ _ _ (cj_seq fun K74 hK74 => cj_seq fun K75 hK75 => cj_region ?_))
    refine Pa (Ga Tryz.underlying37 Tryz.sizeOf3) ?_
    first | refine Pa (La o3) ?_ | refine Pa (Ls o3) ?_
    refine Pa (y_eql rfl rfl) ?_
    refine rj_nil (hK75 _ _ _ ?_)
    refine cj_cond rfl (fun hc196 => ?_) (fun hc196 => ?_)
    have h2 : y.role = 2 := by simpa using hc196
    have hN : x.receiveP m = y := by rw [hE0]; unfold ND.fedP; rw [if_neg h1, if_pos h2]
    refine cj_seq fun K77 hK77 => cj_region ?_
    refine Pa ((Lm (vs := rnC v y) m37)) ?_
    refine Sm (vs := rnC v y) m37 hyvo ?_
    refine Ps ?_
    refine rj_nil (hK77 _ _ _ (cj_ret (hret _ _ _ ?_)))
    refine Ea Tryz.results47 (.cons (rv_cells m37 rfl fd_ rfl rfl) (.cons (rv_tmp rfl) .nil)) [] (by first | exact Hp.le_refl _ | exact Hp.le_trans hR4 hR5 | exact hR5 | exact hR4 | exact hR8 | exact hR9) ?_
    first|(rw [hN]; exact ⟨v, _, rfl, hv, by rw [ho]; exact FrX.nil, rfl⟩)|(rw [hN]; exact ⟨v, _, rfl, hyv, by rw [hyo]; exact FrX.nil, rfl⟩)|(rw [hN]; exact ⟨v, _, rfl, (hyv.mono hR8).answer m false _, by rw [answer_out hyo]; exact hfx8, rfl⟩)|(rw [hE0, hz]; exact ⟨v, _, rfl, (hzv.mono hR9).to (y := z.send (ND.voteMsg m gr)) ⟨rfl, rfl, rfl, rfl, rfl⟩, by rw [send_out hzo]; exact hfx9, rfl⟩)|(rw [hE0, hV]; exact ⟨w5, vl5, rfl, hw5, hfx5, rfl⟩)|(rw [hE0, hV]; exact ⟨w, _, rfl, hzv, by rw [hzo]; exact FrX.nil, rfl⟩)|(rw [hF0]; exact ⟨w5, vl5, rfl, hw5, hfx5, rfl⟩)
    have h2 : ¬ y.role = 2 := by simpa using hc196
    have hF0 : x.receiveP m = if m.kind = 2 then (y.follows m).addP m else (y.follows m).snapP m := by rw [hE0]; unfold ND.fedP; rw [if_neg h1, if_neg h2]
    have hfin := LIn.follows (m := m) hyin
    have hfv : RNOk R v (y.follows m) := ⟨hyv.va, hyv.vv, hyv.vn, hyv.vm, fun h => absurd (show (0 : Int) = 1 from h) (by decide), fun h => absurd (show (0 : Int) = 2 from h) (by decide), fun h => absurd (show (0 : Int) = 2 from h) (by decide)⟩
    have hfvo := rnC_one hfv
    refine cj_skip (hK74 _ _ _ (cj_seq fun K78 hK78 => cj_region ?_))
    refine Pa ((Lm (vs := rnC v y) m37)) ?_
    refine Pa (Ga Tryz.underlying48 Tryz.sizeOf3) ?_
    first | refine Pa (La o3) ?_ | refine Pa (Ls o3) ?_
    refine Pa (Ca Tryz.call81 (rfollows_q v y m hyv)) ?_
    refine Sm (vs := rnC v (y.follows m)) m37 hfvo ?_
    refine rj_nil (hK78 _ _ _ (cj_seq fun K79 hK79 => cj_seq fun K80 hK80 => cj_region ?_))
    refine Pa (Ga Tryz.underlying48 Tryz.sizeOf3) ?_
    first | refine Pa (La o3) ?_ | refine Pa (Ls o3) ?_
    refine Pa (y_eql rfl rfl) ?_
    refine rj_nil (hK80 _ _ _ ?_)
    refine cj_cond rfl (fun hc204 => ?_) (fun hc204 => ?_)
    have k5 : ¬ m.kind = 2 := by (try simp at hc204); omega
    rw [if_neg k5] at hF0
    refine cj_seq fun K82 hK82 => cj_region ?_
    refine Pa ((Lm (vs := rnC v (y.follows m)) m37)) ?_
    refine Pa ((Lm (vs := msgC m ve) m48)) ?_
    refine Ra Tryz.call82 (rsnap_t v (y.follows m) m ve hfin.inn hB0 rfl hyo hfv hm hve) ?_
    rintro r R5 L' hR5 ⟨w5, vl5, rfl, hw5, hfx5, rfl⟩
    have hw5o := rnC_one hw5
    have hfo5 := hfx5.one
    try simp only [cA, nA]
    refine Pa (y_extract rfl rfl) ?_
    refine Pa (y_extract rfl rfl) ?_
    refine Sm (vs := rnC w5 ((y.follows m).snapP m)) m37 hw5o ?_
    refine Ps ?_
    refine rj_nil (hK82 _ _ _ (cj_ret (hret _ _ _ ?_)))
    refine Ea Tryz.results47 (.cons (rv_cells m37 rfl fd_ rfl rfl) (.cons (rv_tmp rfl) .nil)) [] (by first | exact Hp.le_refl _ | exact Hp.le_trans hR4 hR5 | exact hR5 | exact hR4 | exact hR8 | exact hR9) ?_
    first|(rw [hN]; exact ⟨v, _, rfl, hv, by rw [ho]; exact FrX.nil, rfl⟩)|(rw [hN]; exact ⟨v, _, rfl, hyv, by rw [hyo]; exact FrX.nil, rfl⟩)|(rw [hN]; exact ⟨v, _, rfl, (hyv.mono hR8).answer m false _, by rw [answer_out hyo]; exact hfx8, rfl⟩)|(rw [hE0, hz]; exact ⟨v, _, rfl, (hzv.mono hR9).to (y := z.send (ND.voteMsg m gr)) ⟨rfl, rfl, rfl, rfl, rfl⟩, by rw [send_out hzo]; exact hfx9, rfl⟩)|(rw [hE0, hV]; exact ⟨w5, vl5, rfl, hw5, hfx5, rfl⟩)|(rw [hE0, hV]; exact ⟨w, _, rfl, hzv, by rw [hzo]; exact FrX.nil, rfl⟩)|(rw [hF0]; exact ⟨w5, vl5, rfl, hw5, hfx5, rfl⟩)
    have k5 : m.kind = 2 := by (try simp at hc204); omega
    rw [if_pos k5] at hF0
    refine cj_skip (hK79 _ _ _ (cj_seq fun K83 hK83 => cj_region ?_))
    refine Pa ((Lm (vs := rnC v (y.follows m)) m37)) ?_
    refine Pa ((Lm (vs := msgC m ve) m48)) ?_
    refine Ra Tryz.call83 (radd_t v (y.follows m) m ve hfin.inn hB rfl hyo hfv hm hmc hve) ?_
    rintro r R5 L' hR5 ⟨w5, vl5, rfl, hw5, hfx5, rfl⟩
    have hw5o := rnC_one hw5
    have hfo5 := hfx5.one
    try simp only [cA, nA]
    refine Pa (y_extract rfl rfl) ?_
    refine Pa (y_extract rfl rfl) ?_
    refine Sm (vs := rnC w5 ((y.follows m).addP m)) m37 hw5o ?_
    refine Ps ?_
    refine rj_nil (hK83 _ _ _ ?_)
    refine cj_env (eL 4 rfl (eL 5 rfl eN)) ?_
    refine cj_ret (hret _ _ _ ?_)
    refine Ea Tryz.results47 (.cons (rv_cells m37 rfl fd_ rfl rfl) (.cons (rv_tmp rfl) .nil)) [] (by first | exact Hp.le_refl _ | exact Hp.le_trans hR4 hR5 | exact hR5 | exact hR4 | exact hR8 | exact hR9) ?_
    first|(rw [hN]; exact ⟨v, _, rfl, hv, by rw [ho]; exact FrX.nil, rfl⟩)|(rw [hN]; exact ⟨v, _, rfl, hyv, by rw [hyo]; exact FrX.nil, rfl⟩)|(rw [hN]; exact ⟨v, _, rfl, (hyv.mono hR8).answer m false _, by rw [answer_out hyo]; exact hfx8, rfl⟩)|(rw [hE0, hz]; exact ⟨v, _, rfl, (hzv.mono hR9).to (y := z.send (ND.voteMsg m gr)) ⟨rfl, rfl, rfl, rfl, rfl⟩, by rw [send_out hzo]; exact hfx9, rfl⟩)|(rw [hE0, hV]; exact ⟨w5, vl5, rfl, hw5, hfx5, rfl⟩)|(rw [hE0, hV]; exact ⟨w, _, rfl, hzv, by rw [hzo]; exact FrX.nil, rfl⟩)|(rw [hF0]; exact ⟨w5, vl5, rfl, hw5, hfx5, rfl⟩)
    first|(have k2 : ¬ m.kind = 2 := by simpa using hc180)|(have k4 : ¬ m.kind = 4 := by simpa using hc180)
    refine cj_seq fun K84 hK84 => cj_region ?_
    refine Pa (y_eql rfl rfl) ?_
    refine Ps ?_
    refine rj_nil (hK84 _ _ _ ?_)
    refine cj_cond rfl (fun hc215 => ?_) (fun hc215 => ?_)
    have k3 : m.kind = 3 := by simpa using hc215
    have hF0 : x.receiveP m = y.heardP m := by rw [hE]; unfold ND.kindP; rw [if_neg k0, if_neg k1, if_neg (by omega), if_pos k3]
    refine cj_seq fun K86 hK86 => cj_region ?_
    refine Pa ((Lm (vs := rnC v y) m37)) ?_
    refine Pa ((Lm (vs := msgC m ve) m48)) ?_
    refine Ra Tryz.call84 (rheard_t v y m ve hyin hB0 hyo hyv hm hf hve) ?_
    rintro r R5 L' hR5 ⟨w5, vl5, rfl, hw5, hfx5, rfl⟩
    have hw5o := rnC_one hw5
    have hfo5 := hfx5.one
    try simp only [cA, nA]
    refine Pa (y_extract rfl rfl) ?_
    refine Pa (y_extract rfl rfl) ?_
    refine Sm (vs := rnC w5 (y.heardP m)) m37 hw5o ?_
    refine Ps ?_
    refine rj_nil (hK86 _ _ _ (cj_ret (hret _ _ _ ?_)))
    refine Ea Tryz.results47 (.cons (rv_cells m37 rfl fd_ rfl rfl) (.cons (rv_tmp rfl) .nil)) [] (by first | exact Hp.le_refl _ | exact Hp.le_trans hR4 hR5 | exact hR5 | exact hR4 | exact hR8 | exact hR9) ?_
    first|(rw [hN]; exact ⟨v, _, rfl, hv, by rw [ho]; exact FrX.nil, rfl⟩)|(rw [hN]; exact ⟨v, _, rfl, hyv, by rw [hyo]; exact FrX.nil, rfl⟩)|(rw [hN]; exact ⟨v, _, rfl, (hyv.mono hR8).answer m false _, by rw [answer_out hyo]; exact hfx8, rfl⟩)|(rw [hE0, hz]; exact ⟨v, _, rfl, (hzv.mono hR9).to (y := z.send (ND.voteMsg m gr)) ⟨rfl, rfl, rfl, rfl, rfl⟩, by rw [send_out hzo]; exact hfx9, rfl⟩)|(rw [hE0, hV]; exact ⟨w5, vl5, rfl, hw5, hfx5, rfl⟩)|(rw [hE0, hV]; exact ⟨w, _, rfl, hzv, by rw [hzo]; exact FrX.nil, rfl⟩)|(rw [hF0]; exact ⟨w5, vl5, rfl, hw5, hfx5, rfl⟩)
    have k3 : ¬ m.kind = 3 := by simpa using hc215
    have hN : x.receiveP m = y := by rw [hE]; unfold ND.kindP; rw [if_neg k0, if_neg k1, if_neg (by omega), if_neg k3]
    refine cj_skip (hK10 _ _ _ (cj_seq fun K87 hK87 => cj_region ?_))
    refine Pa ((Lm (vs := rnC v y) m37)) ?_
    refine Sm (vs := rnC v y) m37 hyvo ?_
    refine Ps ?_
    refine rj_nil (hK87 _ _ _ (cj_ret (hret _ _ _ ?_)))
    refine Ea Tryz.results47 (.cons (rv_cells m37 rfl fd_ rfl rfl) (.cons (rv_tmp rfl) .nil)) [] (by first | exact Hp.le_refl _ | exact Hp.le_trans hR4 hR5 | exact hR5 | exact hR4 | exact hR8 | exact hR9) ?_
    first|(rw [hN]; exact ⟨v, _, rfl, hv, by rw [ho]; exact FrX.nil, rfl⟩)|(rw [hN]; exact ⟨v, _, rfl, hyv, by rw [hyo]; exact FrX.nil, rfl⟩)|(rw [hN]; exact ⟨v, _, rfl, (hyv.mono hR8).answer m false _, by rw [answer_out hyo]; exact hfx8, rfl⟩)|(rw [hE0, hz]; exact ⟨v, _, rfl, (hzv.mono hR9).to (y := z.send (ND.voteMsg m gr)) ⟨rfl, rfl, rfl, rfl, rfl⟩, by rw [send_out hzo]; exact hfx9, rfl⟩)|(rw [hE0, hV]; exact ⟨w5, vl5, rfl, hw5, hfx5, rfl⟩)|(rw [hE0, hV]; exact ⟨w, _, rfl, hzv, by rw [hzo]; exact FrX.nil, rfl⟩)|(rw [hF0]; exact ⟨w5, vl5, rfl, hw5, hfx5, rfl⟩)
  refine cj_seq fun K88 hK88 => cj_region ?_
  refine Pa (Ga Tryz.underlying48 Tryz.sizeOf31) ?_
  first | refine Pa (La o31) ?_ | refine Pa (Ls o31) ?_
  refine Pa (Ga Tryz.underlying37 Tryz.sizeOf34) ?_
  refine Pa (Ga Tryz.underlying34 Tryz.sizeOf31) ?_
  first | refine Pa (La o31) ?_ | refine Pa (Ls o31) ?_
  refine Pa (y_gtr rfl rfl) ?_
  refine rj_nil (hK88 _ _ _ ?_)
  refine cj_cond rfl (fun hc41 => ?_) (fun hc41 => ?_)
  have g1 : m.term > x.g.term := by simpa using hc41
  have hs1 := hx.set (t := m.term) (v := -1) hmt (by omega) (.inl (by omega))
  refine cj_seq fun K90 hK90 => cj_region ?_
  refine Pa (Ga Tryz.underlying37 Tryz.sizeOf34) ?_
  refine Pa ((Lb (vs := rlC v.va x.g) m34)) ?_
  refine Pa (Ga Tryz.underlying48 Tryz.sizeOf31) ?_
  first | refine Pa (La o31) ?_ | refine Pa (Ls o31) ?_
  refine Pa (Ca Tryz.call76 ((rlSetTerm_q v.va x.g m.term (-1) hvao).eq2 (v' := tupOf [.agg ⟨rlC v.va { x.g with term := m.term, vote := -1 }⟩, .int .i64 0]) (by rw [setR_eq (by omega) (by omega)]))) ?_
  refine Pm ?_
  refine Pa (y_extract rfl rfl) ?_
  refine Pa (y_extract rfl rfl) ?_
  refine Pa (Ga Tryz.underlying37 Tryz.sizeOf34) ?_
  refine rj_stores (vs := rlC v.va { x.g with term := m.term, vote := -1 }) m34 rfl (wn0 rfl) rfl rfl (rlC_one _ hvao) fd_ (by exact (by decide : 8 ≤ 15)) rfl ?_
  refine rj_nil (hK90 _ _ _ ?_)
  refine cj_env (eL 2 rfl (eL 3 rfl (eL 4 rfl eN))) ?_
  refine cj_seq fun K91 hK91 => cj_region ?_
  refine Pa (Ga Tryz.underlying37 Tryz.sizeOf3) ?_
  refine Sa o3 ?_
  refine rj_nil (hK91 _ _ _ (cj_region ?_))
  refine Pa (Ga Tryz.underlying37 Tryz.sizeOf3) ?_
  refine Sa o3 ?_
  refine rj_nil ?_
  refine ej_join hJ7 ((ND.newTerm { x with g := { x.g with term := m.term, vote := -1 } })) (⟨hs1.inn.newTerm, ho, ⟨hv.va, hv.vv, hv.vn, hv.vm, fun h => absurd (show (0 : Int) = 1 from h) (by decide), fun h => absurd (show (0 : Int) = 2 from h) (by decide), fun h => absurd (show (0 : Int) = 2 from h) (by decide)⟩, rfl, by unfold ND.receiveP; rw [if_neg f0, if_pos g1]⟩) (eC rfl (eC rfl (eC rfl eN))) rfl sb_
  have g1 : ¬ m.term > x.g.term := by simpa using hc41
  refine cj_skip ?_
  refine ej_join hJ7 (x) (⟨hx, ho, hv, rfl, by unfold ND.receiveP; rw [if_neg f0, if_neg g1]⟩) (eC rfl (eC rfl (eC rfl eN))) rfl sb_
end V
end Go.Proofs.YtjdbigplednihaaGreat
set_option linter.unusedSimpArgs false
set_option linter.unusedVariables false
set_option maxRecDepth 100000
namespace Go.Proofs.YtjdbigplednihaaGreat
open Go.RowKit
namespace V
set_option maxHeartbeats 4000000
theorem mid_lone {x : ND} (hn : x.n = 1) (hid : x.id = 0) : x.mid = x.g.last := by
  have h1 : x.others = [] := by unfold ND.others; rw [hn, hid]; decide
  unfold ND.mid ND.reach
  rw [h1, hn]
  simp
def awG : LG := { LG.new with term := 1, vote := 0, all := [(1, [])] }
def awW (p : Int) : ND := ⟨0, 1, awG, 2, 0, 1, p, [0], [(1, 0)], [], false⟩
def awS (p : Int) : ND := { ND.start 0 1 LG.new with patience := p }
def awX (j : Nat) : ND := if j < 10 then awS j else awW (((j - 10) % 3 : Nat) : Int)
theorem aw_win : (ND.standP (awS 10)).q = awW 0 := by
  have e : ND.standP (awS 10) = ND.feedAll (ND.count { ((awS 10).stands).wins with g := awG, peers := [(1, 0)] }) := rfl
  have e2 : ND.count { ((awS 10).stands).wins with g := awG, peers := [(1, 0)] } = { ((awS 10).stands).wins with g := awG, peers := [(1, 0)], commit := 1 } := by
    unfold ND.count
    rw [mid_lone rfl rfl]
    rw [if_pos (by decide)]
    rfl
  rw [e, e2]; rfl
theorem aw_beat (p : Int) : (ND.tickP (awW p)).q = if p + 1 ≥ 3 then awW 0 else awW (p + 1) := by
  unfold ND.tickP
  rw [if_pos (show (awW p).role = 2 from rfl)]
  by_cases h : p + 1 ≥ 3
  · rw [if_pos (show (awW p).patience + 1 ≥ 3 from h), if_pos h]; rfl
  · rw [if_neg (show ¬ (awW p).patience + 1 ≥ 3 from h), if_neg h]; rfl
theorem aw_step (j : Nat) : (awX j).tickP.q = awX (j + 1) := by
  unfold awX
  by_cases h : j < 10
  · rw [if_pos h]
    by_cases h9 : j = 9
    · subst h9
      rw [if_neg (by decide)]
      unfold ND.tickP
      rw [if_neg (by decide), if_pos (by decide)]
      exact aw_win
    · rw [if_pos (by omega)]
      unfold ND.tickP
      rw [if_neg (show ¬ (awS j).role = 2 from fun h => absurd (show (0 : Int) = 2 from h) (by decide)), if_neg]
      · show awS ((j : Int) + 1) = awS ((j + 1 : Nat) : Int)
        simp
      · show ¬ (j : Int) + 1 ≥ limitI 0 0
        rw [show limitI 0 0 = 10 by decide]; omega
  · rw [if_neg h, if_neg (by omega), aw_beat]
    by_cases h3 : (((j - 10) % 3 : Nat) : Int) + 1 ≥ 3
    · rw [if_pos h3, show (j + 1 - 10) % 3 = 0 by omega]; rfl
    · rw [if_neg h3, show (((j + 1 - 10) % 3 : Nat) : Int) = (((j - 10) % 3 : Nat) : Int) + 1 by omega]
theorem aw_in (j : Nat) : LIn j j j (awX j) ∧ (awX j).out = [] := by
  induction j with
  | zero => exact ⟨LIn.start0 (by decide), rfl⟩
  | succ j ih =>
    rw [← aw_step]
    exact ⟨by have := ih.1.tickP.inn.q; simpa using this, rfl⟩
theorem aw_prop : ∃ l z, (awX 30).proposeP [97] = ((2, 1, l), z) ∧ z.q = { awW 2 with g := { LG.new with term := 1, vote := 0, all := [(1, []), (1, [97])] }, commit := 2 } := by
  have e0 : awX 30 = awW 2 := by unfold awX; rw [if_neg (by decide)]; rfl
  rw [e0]
  unfold ND.proposeP
  rw [if_neg (by decide)]
  have e2 : ND.count { awW 2 with g := { LG.new with term := 1, vote := 0, all := [(1, []), (1, [97])] } } = { awW 2 with g := { LG.new with term := 1, vote := 0, all := [(1, []), (1, [97])] }, commit := 2 } := by
    unfold ND.count
    rw [mid_lone rfl rfl]
    rw [if_pos (by decide)]
    rfl
  have e : (awW 2).entryP [97] = ND.feedAll (ND.count { awW 2 with g := { LG.new with term := 1, vote := 0, all := [(1, []), (1, [97])] } }) := rfl
  rw [e, e2]
  exact ⟨_, _, rfl, rfl⟩
theorem start1_t {R : Hp} (l d : Nat) (u va : Value) (hva : FrX entE R LG.new.all va) :
    Tri Tryz.prog 25 [.int .i64 0, .int .i64 1, .pointer (some ⟨l, 0, none⟩)] R [lgB l (some ⟨d, 0, none⟩) va LG.new, dkB d u DK.new, dkS u DK.new]
      (fun r R' L' => ∃ bx, r = tupOf [.pointer (some ⟨bx, 0, none⟩), .int .i64 0] ∧ NOk R' (NV.new u va) (awX 0) ∧ L' = ndI ⟨bx, l, d⟩ (NV.new u va) (awX 0) DK.new) :=
  startOK_t l d 0 1 0 u va LG.new DK.new (by decide) hva LD.new
theorem awake_t {R : Hp} : Tri Tryz.prog 7 [] R [] (fun v R' L' => v = .bool true ∧ L' = []) := by
  refine tri_of Tryz.func7 rfl Tryz.ntmps7 rfl (fun σ F Q hret hend hpan => ?_)
  try simp only [cA, nA]
  refine cj_env eN ?_
  refine cj_seq fun K1 hK1 => cj_region ?_
  refine Ps ?_
  refine rj_nil (hK1 _ _ _ (cj_seq fun K2 hK2 => cj_region ?_))
  refine Ra Tryz.call27 (new_t) ?_
  rintro r R1 L' hR1 ⟨rfl, bd, u0, rfl, rfl⟩
  try simp only [cA, nA]
  refine Ra Tryz.call24 (openOK_t bd u0 DK.new 0 LG.new LD.new (by decide)) ?_
  rintro x R2 L' hR2 ⟨b1, va1, u1, rfl, hva1, rfl⟩
  try simp only [cA, nA]
  refine Pm ?_
  refine Pa (y_extract rfl rfl) ?_
  refine Pa (y_extract rfl rfl) ?_
  refine Ps ?_
  refine Ps ?_
  refine rj_nil (hK2 _ _ _ (cj_seq fun K3 hK3 => cj_region ?_))
  refine Pm ?_
  refine Ra Tryz.call25 (start1_t b1 bd u1 va1 hva1) ?_
  rintro x R3 L' hR3 ⟨bx, rfl, hv3, rfl⟩
  try simp only [cA, nA]
  refine Pm ?_
  refine Pa (y_extract rfl rfl) ?_
  refine Pa (y_extract rfl rfl) ?_
  refine Ps ?_
  refine Ps ?_
  refine rj_nil (hK3 _ _ _ (cj_seq fun K4 hK4 => cj_seq fun K5 hK5 => cj_region ?_))
  refine Pm ?_
  refine rj_nil (hK5 _ _ _ (cj_block ?_))
  refine cj_env (E' := (fun (x1 : Nat × NV × DK × Hp) => [(3, .pointer (some ⟨bx, 0, none⟩)), (4, .int .i64 0), (18, .int .i64 (x1.1 : Int))]) (0, NV.new u1 va1, DK.new, R3)) (eC rfl (eC rfl (eC rfl eN))) ?_
  refine cj_sub (M := (fun (x1 : Nat × NV × DK × Hp) => ndB ⟨bx, b1, bd⟩ x1.2.1 (awX x1.1) :: lgN ⟨bx, b1, bd⟩ x1.2.1 (awX x1.1) :: dkB bd x1.2.1.u x1.2.2.1 :: dkS x1.2.1.u x1.2.2.1 :: prA x1.2.1 (awX x1.1) :: mpA x1.2.1.vm (awX x1.1).votes :: F) (0, NV.new u1 va1, DK.new, R3)) sb_ ?_
  refine cj_loop (fun (x1 : Nat × NV × DK × Hp) => [(3, .pointer (some ⟨bx, 0, none⟩)), (4, .int .i64 0), (18, .int .i64 (x1.1 : Int))]) (fun (x1 : Nat × NV × DK × Hp) => x1.2.2.2) (fun (x1 : Nat × NV × DK × Hp) => ndB ⟨bx, b1, bd⟩ x1.2.1 (awX x1.1) :: lgN ⟨bx, b1, bd⟩ x1.2.1 (awX x1.1) :: dkB bd x1.2.1.u x1.2.2.1 :: dkS x1.2.1.u x1.2.2.1 :: prA x1.2.1 (awX x1.1) :: mpA x1.2.1.vm (awX x1.1).votes :: F) (fun (x1 : Nat × NV × DK × Hp) => x1.1 ≤ 30 ∧ NOk x1.2.2.2 x1.2.1 (awX x1.1) ∧ LD (6000 * x1.1) (awX x1.1).g x1.2.2.1 ∧ R3.le x1.2.2.2) (fun (x1 : Nat × NV × DK × Hp) => 30 - x1.1) (0, NV.new u1 va1, DK.new, R3) (⟨by simp, hv3, LD.new, Hp.le_refl _⟩) ?_
  rintro ⟨j, v, D, R4⟩ ⟨hj, hv4, hD4, hR4⟩
  try dsimp only
  dsimp only at hj hv4 hD4 hR4
  refine cj_seq fun K6 hK6 => cj_region ?_
  refine Pa (y_lss rfl rfl) ?_
  refine rj_nil (hK6 _ _ _ (cj_seq fun K7 hK7 => ?_))
  refine cj_cond rfl (fun hc19 => ?_) (fun hc19 => ?_)
  try simp only [dT, dF, nT, nF, tF, fT] at hc19
  refine cj_skip (hK7 _ _ _ (cj_seq fun K9 hK9 => cj_block ?_))
  have hj3 : j < 30 := by (try simp at hc19); omega
  obtain ⟨hin, hout⟩ := aw_in j
  refine cj_region ?_
  refine Pm ?_
  refine Ra Tryz.call9 (tickOK_t ⟨bx, b1, bd⟩ v (awX j) D (6000 * j) hin hout (by unfold BB; omega) hv4 hD4 (by omega)) ?_
  rintro r R5 L' hR5 ⟨hvl, v5, D5, hv5, hD5, rfl⟩
  rw [aw_step] at hv5 ⊢
  replace hD5 : LD (6000 * (j + 1)) (awX (j + 1)).g D5 := by rw [← aw_step]; exact hD5
  try simp only [cA, nA]
  refine rj_nil (hK9 _ _ _ (cj_region ?_))
  first | refine Pa (y_add64 rfl rfl om_) ?_ | refine Pa (y_add rfl rfl) ?_
  refine Pm ?_
  refine rj_nil ?_
  refine ej_on (q' := roundK _ _ _ _ _ _ _) rfl ?_
  refine ej_round ((j + 1, v5, D5, R5)) (⟨by dsimp only; omega, hv5, hD5, Hp.le_trans hR4 hR5⟩) (by dsimp only; omega) (eC rfl (eC rfl (eC rfl eN))) rfl sb_
  try simp only [dT, dF, nT, nF, tF, fT] at hc19
  refine cj_exit (hK4 _ _ _ (cj_seq fun K10 hK10 => ?_))
  obtain rfl : j = 30 := by (try simp at hc19); omega
  obtain ⟨hin, hout⟩ := aw_in 30
  obtain ⟨lp, zp, hpe, hze⟩ := aw_prop
  refine cj_region ?_
  refine Pm ?_
  refine Ra Tryz.call21 (proposeOK_t ⟨bx, b1, bd⟩ v (awX 30) D [97] (6000 * 30) hin hout (by unfold BB; omega) (by decide) hv4 hD4 (by omega)) ?_
  rintro r R6 L' hR6 ⟨vl, rfl, hvl, v6, D6, hv6, hD6, rfl⟩
  rw [hpe] at hvl hv6 hD6 ⊢
  dsimp only at hvl hv6 hD6 ⊢
  rw [hze] at hv6 ⊢
  have hvlo := hvl.one
  obtain ⟨z, hz⟩ : ∃ z : ND, z = { awW 2 with g := { LG.new with term := 1, vote := 0, all := [(1, []), (1, [97])] }, commit := 2 } := ⟨_, rfl⟩
  rw [← hz] at hv6 ⊢
  have hzg : z.g.ok := by rw [hz]; exact ⟨by unfold u64B; decide, by decide, by decide, by unfold u64B; decide, by decide, by decide, fun e he => by simp at he; rcases he with rfl | rfl <;> exact ⟨by unfold u64B; decide, by decide⟩⟩
  have hz1 : z.role = 2 := by rw [hz]; rfl
  have hz2 : z.leader = 0 := by rw [hz]; rfl
  have hz3 : z.commit = 2 := by rw [hz]
  have hz4 : z.g.last = 2 := by rw [hz]; rfl
  try simp only [cA, nA]
  refine Pm ?_
  refine Pa (y_extract rfl rfl) ?_
  refine Pa (y_extract rfl rfl) ?_
  refine Pa (y_extract rfl rfl) ?_
  refine Ps ?_
  refine Ps ?_
  refine Ps ?_
  refine rj_nil (hK10 _ _ _ ?_)
  refine cj_env (eL 3 rfl (eL 4 rfl (eL 5 rfl (eL 6 rfl eN)))) ?_
  refine cj_seq fun K11 hK11 => cj_region ?_
  refine Pm ?_
  refine Pa (y_eql rfl rfl) ?_
  refine Pm ?_
  refine Pb (y_move rfl) ?_
  refine Pb (Ca Tryz.call10 ((ndRole_q ⟨bx, b1, bd⟩ v6 z).eq2 (v' := .int .i64 2) (by rw [hz1]))) ?_
  refine Pb (y_eql rfl rfl) ?_
  refine Pa (y_pick_t rfl rfl) ?_
  refine Pm ?_
  refine Pb (y_move rfl) ?_
  refine Pb (Ca Tryz.call30 ((ndLeader_q ⟨bx, b1, bd⟩ v6 z).eq2 (v' := .int .i64 0) (by rw [hz2]))) ?_
  refine Pb (y_eql rfl rfl) ?_
  refine Pa (y_pick_t rfl rfl) ?_
  refine Pm ?_
  refine Pb (y_move rfl) ?_
  refine Pb (y_eql rfl rfl) ?_
  refine Pa (y_pick_t rfl rfl) ?_
  refine Pm ?_
  refine Pb (y_move rfl) ?_
  refine Pb (y_eql rfl rfl) ?_
  refine Pa (y_pick_t rfl rfl) ?_
  refine Pm ?_
  refine Pb (y_move rfl) ?_
  refine Pb (Ca Tryz.call17 ((ndCommit_q ⟨bx, b1, bd⟩ v6 z).eq2 (v' := .int .u64 2) (by rw [hz3]))) ?_
  refine Pb (y_eql rfl rfl) ?_
  refine Pa (y_pick_t rfl rfl) ?_
  refine Pm ?_
  refine Pb (y_move rfl) ?_
  refine Pb (Ca Tryz.call12 (ndLog_q ⟨bx, b1, bd⟩ v6 z)) ?_
  refine Pb (Ca Tryz.call19 ((lgLast_q b1 (some ⟨bd, 0, none⟩) v6.va z.g hzg hv6.va).eq2 (v' := .int .u64 2) (by rw [hz4]))) ?_
  refine Pb (y_eql rfl rfl) ?_
  refine Pa (y_pick_t rfl rfl) ?_
  refine Ps ?_
  refine rj_nil (hK11 _ _ _ ?_)
  refine cj_env (eL 0 rfl eN) ?_
  refine cj_ret (hret _ _ _ ?_)
  refine Ea Tryz.results7 (.cons (rv_tmp rfl) .nil) [] (by exact Hp.le_trans hR1 (Hp.le_trans hR2 (Hp.le_trans hR3 (Hp.le_trans hR4 hR6)))) ?_
  exact ⟨rfl, rfl⟩
def RW.new (va : Value) : RW := ⟨va, .slice none 0 0, .slice none 0 0, .slice none 0 0⟩
theorem rnC_cells {v : RW} {x : ND} (h0 : v.va.oneCell' = true) (h1 : v.vv.oneCell' = true) (h2 : v.vn.oneCell' = true) (h3 : v.vm.oneCell' = true) : ∀ u ∈ rnC v x, u.oneCell' = true := fun u hu => by
  simp only [rnC, List.mem_cons, List.not_mem_nil, or_false] at hu
  rcases hu with rfl | rfl | rfl | rfl | rfl | rfl | rfl | rfl | rfl | rfl | rfl | rfl | rfl | rfl | rfl <;> first | rfl | assumption
theorem rStart_q {R : Hp} (id n : Nat) (g : LG) (va : Value) (hva : va.oneCell' = true) : QTri Tryz.prog 28 [.int .i64 (id : Int), .int .i64 (n : Int), .agg ⟨rlC va g⟩] R [] (.agg ⟨rnC (RW.new va) (ND.start id n g)⟩) := by
  refine Tri.q2 ?_
  unfold rlC
  refine tri_of Tryz.func28 rfl Tryz.ntmps28 rfl (fun σ F Q hret hend hpan => ?_)
  try simp only [cA, nA]
  refine cj_seq fun K1 hK1 => cj_region ?_
  refine rj_box (wn0 rfl) rfl rfl rfl (fun b5 => ?_)
  refine rj_alloc (wn0 rfl) rfl Tryz.zeroValue37 rfl (fun b6 => ?_)
  refine rj_nil (hK1 _ _ _ (cj_seq fun K2 hK2 => cj_region ?_))
  refine Pm ?_
  refine Pm ?_
  refine Pa ((Lm (vs := rlC va g) m34)) ?_
  refine Pa (Ga Tryz.underlying34 Tryz.sizeOf31) ?_
  first | refine Pa (La o31) ?_ | refine Pa (Ls o31) ?_
  refine Pa (y_build (cells := [_, _, _, _, _, _, _, _, _, _, _, _, _, _, _]) [(0, 1), (1, 1), (2, 6), (8, 1), (9, 1), (10, 1), (11, 1), (12, 1), (13, 1), (14, 1)] Tryz.underlying37 Tryz.zeroValue37 (fun _ => rfl) rfl rfl) ?_
  refine Sm (vs := rnC (RW.new va) (ND.start id n g)) m37 (rnC_cells hva rfl rfl rfl) ?_
  refine rj_nil (hK2 _ _ _ (cj_ret (hret _ _ _ ?_)))
  refine Ea Tryz.results28 (.cons (rv_cells m37 rfl fd_ rfl rfl) .nil) [] le_ ?_
  exact ⟨rfl, rfl⟩
theorem RNOk.start {R : Hp} {va : Value} {id n : Nat} {g : LG} (h : FrX entE R g.all va) : RNOk R (RW.new va) (ND.start id n g) :=
  ⟨h, rfl, rfl, rfl, fun h => absurd (show (0 : Int) = 1 from h) (by decide), fun h => absurd (show (0 : Int) = 2 from h) (by decide), fun h => absurd (show (0 : Int) = 2 from h) (by decide)⟩
def lnC (bd bx : Nat) (v : RW) (x : ND) : List Value := .pointer (some ⟨bd, 0, none⟩) :: .pointer (some ⟨bx, 0, none⟩) :: rnC v x
@[reducible] def lnB (b bd bx : Nat) (v : RW) (x : ND) : Asn := blk b (lnC bd bx v x) 39
theorem lnStart_t {R : Hp} (id n : Nat) (hn : id < n ∧ n ≤ 9) : Tri Tryz.prog 8 [.int .i64 (id : Int), .int .i64 (n : Int)] R []
    (fun r R' L' => ∃ bp, ∃ b : NB, ∃ v w, r = tupOf [.pointer (some ⟨bp, 0, none⟩), .bool true] ∧ NOk R' v (ND.start id n LG.new) ∧ RNOk R' w (ND.start id n LG.new) ∧ L' = lnB bp b.d b.x w (ND.start id n LG.new) :: ndI b v (ND.start id n LG.new) DK.new) := by
  refine tri_of Tryz.func8 rfl Tryz.ntmps8 rfl (fun σ F Q hret hend hpan => ?_)
  try simp only [cA, nA]
  refine cj_seq fun K1 hK1 => cj_region ?_
  refine Ps ?_
  refine Ps ?_
  refine rj_nil (hK1 _ _ _ (cj_seq fun K2 hK2 => cj_region ?_))
  refine Ra Tryz.call27 (new_t) ?_
  rintro r R1 L' hR1 ⟨rfl, bd, u0, rfl, rfl⟩
  try simp only [cA, nA]
  refine Ps ?_
  refine rj_nil (hK2 _ _ _ (cj_seq fun K3 hK3 => cj_region ?_))
  refine Pm ?_
  refine Ra Tryz.call24 (openOK_t bd u0 DK.new 0 LG.new LD.new (by decide)) ?_
  rintro x R2 L' hR2 ⟨b1, va1, u1, rfl, hva1, rfl⟩
  try simp only [cA, nA]
  refine Pm ?_
  refine Pa (y_extract rfl rfl) ?_
  refine Pa (y_extract rfl rfl) ?_
  refine Ps ?_
  refine Ps ?_
  refine rj_nil (hK3 _ _ _ (cj_seq fun K4 hK4 => cj_region ?_))
  refine Pm ?_
  refine Pm ?_
  refine Pm ?_
  refine Ra Tryz.call25 (startOK_t b1 bd id n 0 u1 va1 LG.new DK.new hn hva1 LD.new) ?_
  rintro x R3 L' hR3 ⟨bx, rfl, hv3, rfl⟩
  try simp only [cA, nA]
  refine Pm ?_
  refine Pa (y_extract rfl rfl) ?_
  refine Pa (y_extract rfl rfl) ?_
  refine Ps ?_
  refine Ps ?_
  refine rj_nil (hK4 _ _ _ (cj_seq fun K5 hK5 => cj_region ?_))
  refine Pm ?_
  refine Pm ?_
  refine Pm ?_
  refine Pm ?_
  refine Pa (Ca Tryz.call31 (rlNew_q)) ?_
  refine Pa (Ca Tryz.call28 (rStart_q id n LG.new (.slice none 0 0) rfl)) ?_
  refine Pa (y_build (cells := [_, _, _, _, _, _, _, _, _, _, _, _, _, _, _, _, _]) [(0, 1), (1, 1), (2, 15)] Tryz.underlying39 Tryz.zeroValue39 (fun _ => rfl) rfl rfl) ?_
  refine rj_box (wn0 rfl) rfl rfl rfl (fun bp => ?_)
  refine Pm ?_
  refine Pa (y_eql rfl rfl) ?_
  refine Pm ?_
  refine Pb (y_move rfl) ?_
  refine Pb (y_eql rfl rfl) ?_
  refine Pa (y_pick_t rfl rfl) ?_
  refine Ps ?_
  refine Ps ?_
  refine rj_nil (hK5 _ _ _ ?_)
  refine cj_env (eL 4 rfl (eL 5 rfl eN)) ?_
  refine cj_ret (hret _ _ _ ?_)
  refine Ea Tryz.results8 (.cons (rv_tmp rfl) (.cons (rv_tmp rfl) .nil)) (lnB bp bd bx (RW.new (.slice none 0 0)) (ND.start id n LG.new) :: ndI ⟨bx, b1, bd⟩ (NV.new u1 va1) (ND.start id n LG.new) DK.new) (by exact Hp.le_trans hR1 (Hp.le_trans hR2 hR3)) ?_
  exact ⟨bp, ⟨bx, b1, bd⟩, _, _, rfl, hv3, RNOk.start FrX.nil, rfl⟩
end V
end Go.Proofs.YtjdbigplednihaaGreat
set_option linter.unusedSimpArgs false
set_option linter.unusedVariables false
set_option maxRecDepth 100000
namespace Go.Proofs.YtjdbigplednihaaGreat
open Go.RowKit
namespace V
set_option maxHeartbeats 4000000
theorem takes_succ {α : Type} {l m : List α} {i : Nat} {x y : α} (hx : l[i]? = some x) (hy : m[i]? = some y) (h : l.take i = m.take i) (e : x = y) : l.take (i + 1) = m.take (i + 1) := by
  rw [List.take_add_one, List.take_add_one, hx, hy, h, e]
theorem ne_at {α : Type} {l m : List α} {i : Nat} {x y : α} (hx : l[i]? = some x) (hy : m[i]? = some y) (h : ¬ x = y) : ¬ l = m := by
  rintro rfl
  rw [hx] at hy; cases hy; exact h rfl
theorem msg_eq {x y : Msg} (h0 : x.kind = y.kind) (h1 : x.frm = y.frm) (h2 : x.to = y.to) (h3 : x.term = y.term) (h4 : x.index = y.index) (h5 : x.logTerm = y.logTerm) (h6 : x.commit = y.commit) (h7 : x.ok = y.ok) (h8 : x.es = y.es) (h9 : x.state = y.state) : x = y := by
  cases x; cases y; simp_all
theorem msgsSame_q {R : Hp} (la lb : List Msg) (va vb : Value) (ha : FrX msgE R la va) (hb : FrX msgE R lb vb) : QTri Tryz.prog 51 [va, vb] R [] (.bool (decide (la = lb))) := by
  refine Tri.q2 ?_
  obtain ⟨qa, ca, rfl, hca, hma⟩ := ha.shape
  obtain ⟨qb, cb, rfl, hcb, hmb⟩ := hb.shape
  have hma2 : ca ≤ 9223372036854775807 := by simp only [maxLen] at hma; omega
  have hmb2 : cb ≤ 9223372036854775807 := by simp only [maxLen] at hmb; omega
  refine tri_of Tryz.func51 rfl Tryz.ntmps51 rfl (fun σ F Q hret hend hpan => ?_)
  try simp only [cA, nA]
  refine cj_seq fun K1 hK1 => cj_region ?_
  refine Ps ?_
  refine rj_nil (hK1 _ _ _ (cj_seq fun K2 hK2 => cj_seq fun K3 hK3 => cj_region ?_))
  refine Pm ?_
  first | refine Pa (y_len_sl Tryz.underlying28 rfl) ?_ | refine Pa (y_len_slc Tryz.underlying28 rfl fd_) ?_
  refine Pm ?_
  first | refine Pa (y_len_sl Tryz.underlying28 rfl) ?_ | refine Pa (y_len_slc Tryz.underlying28 rfl fd_) ?_
  refine Pa (y_neq rfl rfl) ?_
  refine rj_nil (hK3 _ _ _ ?_)
  refine cj_cond rfl (fun hc13 => ?_) (fun hc13 => ?_)
  try simp only [dT, dF, nT, nF, tF, fT] at hc13
  refine cj_seq fun K5 hK5 => cj_region ?_
  refine Ps ?_
  refine rj_nil (hK5 _ _ _ (cj_ret (hret _ _ _ ?_)))
  refine Ea Tryz.results51 (.cons (rv_tmp rfl) .nil) [] le_ ?_
  refine ⟨?_, rfl⟩; rw [decide_eq_false (by rintro rfl; simp at hc13)]; rfl
  (try simp only [dT, dF, nT, nF, tF, fT] at hc13); have hlen : la.length = lb.length := by (try simp at hc13); omega
  refine cj_skip (hK2 _ _ _ (cj_seq fun K6 hK6 => cj_seq fun K7 hK7 => cj_region ?_))
  refine Ps ?_
  refine rj_nil (hK7 _ _ _ (cj_block ?_))
  refine cj_env (E' := (fun (x : Nat) => [(0, .slice qa la.length ca), (1, .slice qb lb.length cb), (5, .int .i64 (x : Int))]) 0) (eC rfl (eC rfl (eC rfl eN))) ?_
  refine cj_sub (M := (fun (x : Nat) => F) 0) sb_ ?_
  refine cj_loop (fun (x : Nat) => [(0, .slice qa la.length ca), (1, .slice qb lb.length cb), (5, .int .i64 (x : Int))]) (fun (x : Nat) => R) (fun (x : Nat) => F) (fun (x : Nat) => x ≤ la.length ∧ la.take x = lb.take x) (fun (x : Nat) => la.length - x) 0 (⟨by simp, by simp⟩) ?_
  rintro i ⟨hi, hall⟩
  try dsimp only
  refine cj_seq fun K8 hK8 => cj_seq fun K9 hK9 => cj_region ?_
  refine Pm ?_
  refine Pm ?_
  first | refine Pa (y_len_sl Tryz.underlying28 rfl) ?_ | refine Pa (y_len_slc Tryz.underlying28 rfl fd_) ?_
  refine Pa (y_lss rfl rfl) ?_
  refine rj_nil (hK9 _ _ _ ?_)
  refine cj_cond rfl (fun hc17 => ?_) (fun hc17 => ?_)
  try simp only [dT, dF, nT, nF, tF, fT] at hc17
  refine cj_skip (hK8 _ _ _ (cj_seq fun K11 hK11 => cj_block (cj_seq fun K12 hK12 => cj_region ?_)))
  obtain ⟨x, hx⟩ : ∃ x, la[i]? = some x := ⟨la[i]'(by omega), by simp⟩
  obtain ⟨y, hy⟩ : ∃ y, lb[i]? = some y := ⟨lb[i]'(by omega), by simp⟩
  obtain ⟨b, off, cap, cs, he, ⟨ve, rfl, hve⟩, hcl, hcell⟩ := ha.at hx
  obtain ⟨b', off', cap', cs', he', ⟨ve', rfl, hve'⟩, hcl', hcell'⟩ := hb.at hy
  obtain ⟨rfl, rfl⟩ : qa = some ⟨b, off, none⟩ ∧ ca = cap := by cases he; exact ⟨rfl, rfl⟩
  obtain ⟨rfl, rfl⟩ : qb = some ⟨b', off', none⟩ ∧ cb = cap' := by cases he'; exact ⟨rfl, rfl⟩
  have hne := fun h => ne_at hx hy h
  obtain ⟨qe, ce, rfl, hce, hme⟩ := hve.shape
  obtain ⟨qe', ce', rfl, hce', hme'⟩ := hve'.shape
  have hme2 : ce ≤ 9223372036854775807 := by simp only [maxLen] at hme; omega
  have hme2' : ce' ≤ 9223372036854775807 := by simp only [maxLen] at hme'; omega
  refine Pm ?_
  refine Pm ?_
  first | refine Pa (y_indexAddr Tryz.underlying28 Tryz.sizeOf48 rfl rfl om_) ?_ | refine Pa (y_index_slc Tryz.underlying28 Tryz.sizeOf48 rfl rfl fd_ om_) ?_
  refine Pa ((y_loads_ro m48 (vs := msgC x (.slice qe x.es.length ce)) rfl rfl (fun j u hj => hcell j u hj))) ?_
  refine rj_alloc (wn0 rfl) rfl Tryz.zeroValue48 rfl (fun b6 => ?_)
  refine rj_stores m48 rfl (wn0 rfl) rfl rfl (msgE.one (R := R) (x := x) ⟨_, rfl, hve⟩) fd_ (by exact Nat.le_refl 10) rfl ?_
  refine rj_nil (hK12 _ _ _ (cj_seq fun K13 hK13 => cj_region ?_))
  refine Pm ?_
  refine Pm ?_
  first | refine Pa (y_indexAddr Tryz.underlying28 Tryz.sizeOf48 rfl rfl om_) ?_ | refine Pa (y_index_slc Tryz.underlying28 Tryz.sizeOf48 rfl rfl fd_ om_) ?_
  refine Pa ((y_loads_ro m48 (vs := msgC y (.slice qe' y.es.length ce')) rfl rfl (fun j u hj => hcell' j u hj))) ?_
  refine rj_alloc (wn0 rfl) rfl Tryz.zeroValue48 rfl (fun b7 => ?_)
  refine rj_stores m48 rfl (wn0 rfl) rfl rfl (msgE.one (R := R) (x := y) ⟨_, rfl, hve'⟩) fd_ (by exact Nat.le_refl 10) rfl ?_
  refine rj_nil (hK13 _ _ _ ?_)
  refine cj_env (eL 0 rfl (eL 1 rfl (eL 5 rfl (eL 6 rfl (eL 7 rfl eN))))) ?_
  refine cj_seq fun K14 hK14 => cj_seq fun K15 hK15 => cj_region ?_
  refine Pa (Ga Tryz.underlying48 Tryz.sizeOf3) ?_
  first | refine Pa (La o3) ?_ | refine Pa (Ls o3) ?_
  refine Pa (Ga Tryz.underlying48 Tryz.sizeOf3) ?_
  first | refine Pa (La o3) ?_ | refine Pa (Ls o3) ?_
  refine Pa (y_neq rfl rfl) ?_
  refine Pm ?_
  refine rj_part 33 rfl (fun hg33 => ?_) (fun hg33 => ?_)
  try simp only [dT, dF, nT, nF, tF, fT] at hg33
  refine Pk ?_
  refine Pk ?_
  refine Pk ?_
  refine Pk ?_
  refine Pk ?_
  refine Pa (y_pick_t rfl rfl) ?_
  refine Pm ?_
  refine Pk ?_
  refine Pk ?_
  refine Pk ?_
  refine Pk ?_
  refine Pk ?_
  refine Pa (y_pick_t rfl rfl) ?_
  refine Pm ?_
  refine Pk ?_
  refine Pk ?_
  refine Pk ?_
  refine Pk ?_
  refine Pk ?_
  refine Pa (y_pick_t rfl rfl) ?_
  refine Pm ?_
  refine Pk ?_
  refine Pk ?_
  refine Pk ?_
  refine Pk ?_
  refine Pk ?_
  refine Pa (y_pick_t rfl rfl) ?_
  refine Pm ?_
  refine Pk ?_
  refine Pk ?_
  refine Pk ?_
  refine Pk ?_
  refine Pk ?_
  refine Pa (y_pick_t rfl rfl) ?_
  refine Pm ?_
  refine Pk ?_
  refine Pk ?_
  refine Pk ?_
  refine Pk ?_
  refine Pk ?_
  refine Pa (y_pick_t rfl rfl) ?_
  refine Pm ?_
  refine Pk ?_
  refine Pk ?_
  refine Pk ?_
  refine Pk ?_
  refine Pk ?_
  refine Pa (y_pick_t rfl rfl) ?_
  refine Pm ?_
  refine Pk ?_
  refine Pk ?_
  refine Pk ?_
  refine Pk ?_
  refine Pk ?_
  refine Pa (y_pick_t rfl rfl) ?_
  refine Pm ?_
  refine Pk ?_
  refine Pk ?_
  refine Pk ?_
  refine Pk ?_
  refine Pk ?_
  refine Pk ?_
  refine Pk ?_
  refine Pa (y_pick_t rfl rfl) ?_
  refine rj_nil (hK15 _ _ _ ?_)
  refine cj_env (eL 0 rfl (eL 1 rfl (eL 5 rfl (eL 6 rfl (eL 7 rfl (eL 97 rfl eN)))))) ?_
  refine cj_cond_t rfl (cj_seq fun K16 hK16 => cj_region ?_)
  refine Ps ?_
  refine rj_nil (hK16 _ _ _ (cj_ret (hret _ _ _ ?_)))
  refine Ea Tryz.results51 (.cons (rv_tmp rfl) .nil) [] le_ ?_
  refine ⟨?_, rfl⟩; rw [decide_eq_false (hne (by rintro rfl; simp at *))]; rfl
  try simp only [dT, dF, nT, nF, tF, fT] at hg33
  refine Pb (Ga Tryz.underlying48 Tryz.sizeOf3) ?_
  first | refine Pb (La o3) ?_ | refine Pb (Ls o3) ?_
  refine Pb (Ga Tryz.underlying48 Tryz.sizeOf3) ?_
  first | refine Pb (La o3) ?_ | refine Pb (Ls o3) ?_
  refine Pb (y_neq rfl rfl) ?_
  refine Pa (y_pick_f rfl rfl) ?_
  refine Pm ?_
  refine rj_part 40 rfl (fun hg40 => ?_) (fun hg40 => ?_)
  try simp only [dT, dF, nT, nF, tF, fT] at hg40
  refine Pk ?_
  refine Pk ?_
  refine Pk ?_
  refine Pk ?_
  refine Pk ?_
  refine Pa (y_pick_t rfl rfl) ?_
  refine Pm ?_
  refine Pk ?_
  refine Pk ?_
  refine Pk ?_
  refine Pk ?_
  refine Pk ?_
  refine Pa (y_pick_t rfl rfl) ?_
  refine Pm ?_
  refine Pk ?_
  refine Pk ?_
  refine Pk ?_
  refine Pk ?_
  refine Pk ?_
  refine Pa (y_pick_t rfl rfl) ?_
  refine Pm ?_
  refine Pk ?_
  refine Pk ?_
  refine Pk ?_
  refine Pk ?_
  refine Pk ?_
  refine Pa (y_pick_t rfl rfl) ?_
  refine Pm ?_
  refine Pk ?_
  refine Pk ?_
  refine Pk ?_
  refine Pk ?_
  refine Pk ?_
  refine Pa (y_pick_t rfl rfl) ?_
  refine Pm ?_
  refine Pk ?_
  refine Pk ?_
  refine Pk ?_
  refine Pk ?_
  refine Pk ?_
  refine Pa (y_pick_t rfl rfl) ?_
  refine Pm ?_
  refine Pk ?_
  refine Pk ?_
  refine Pk ?_
  refine Pk ?_
  refine Pk ?_
  refine Pa (y_pick_t rfl rfl) ?_
  refine Pm ?_
  refine Pk ?_
  refine Pk ?_
  refine Pk ?_
  refine Pk ?_
  refine Pk ?_
  refine Pk ?_
  refine Pk ?_
  refine Pa (y_pick_t rfl rfl) ?_
  refine rj_nil (hK15 _ _ _ ?_)
  refine cj_env (eL 0 rfl (eL 1 rfl (eL 5 rfl (eL 6 rfl (eL 7 rfl (eL 97 rfl eN)))))) ?_
  refine cj_cond_t rfl (cj_seq fun K17 hK17 => cj_region ?_)
  refine Ps ?_
  refine rj_nil (hK17 _ _ _ (cj_ret (hret _ _ _ ?_)))
  refine Ea Tryz.results51 (.cons (rv_tmp rfl) .nil) [] le_ ?_
  refine ⟨?_, rfl⟩; rw [decide_eq_false (hne (by rintro rfl; simp at *))]; rfl
  try simp only [dT, dF, nT, nF, tF, fT] at hg40
  refine Pb (Ga Tryz.underlying48 Tryz.sizeOf3) ?_
  first | refine Pb (La o3) ?_ | refine Pb (Ls o3) ?_
  refine Pb (Ga Tryz.underlying48 Tryz.sizeOf3) ?_
  first | refine Pb (La o3) ?_ | refine Pb (Ls o3) ?_
  refine Pb (y_neq rfl rfl) ?_
  refine Pa (y_pick_f rfl rfl) ?_
  refine Pm ?_
  refine rj_part 47 rfl (fun hg47 => ?_) (fun hg47 => ?_)
  try simp only [dT, dF, nT, nF, tF, fT] at hg47
  refine Pk ?_
  refine Pk ?_
  refine Pk ?_
  refine Pk ?_
  refine Pk ?_
  refine Pa (y_pick_t rfl rfl) ?_
  refine Pm ?_
  refine Pk ?_
  refine Pk ?_
  refine Pk ?_
  refine Pk ?_
  refine Pk ?_
  refine Pa (y_pick_t rfl rfl) ?_
  refine Pm ?_
  refine Pk ?_
  refine Pk ?_
  refine Pk ?_
  refine Pk ?_
  refine Pk ?_
  refine Pa (y_pick_t rfl rfl) ?_
  refine Pm ?_
  refine Pk ?_
  refine Pk ?_
  refine Pk ?_
  refine Pk ?_
  refine Pk ?_
  refine Pa (y_pick_t rfl rfl) ?_
  refine Pm ?_
  refine Pk ?_
  refine Pk ?_
  refine Pk ?_
  refine Pk ?_
  refine Pk ?_
  refine Pa (y_pick_t rfl rfl) ?_
  refine Pm ?_
  refine Pk ?_
  refine Pk ?_
  refine Pk ?_
  refine Pk ?_
  refine Pk ?_
  refine Pa (y_pick_t rfl rfl) ?_
  refine Pm ?_
  refine Pk ?_
  refine Pk ?_
  refine Pk ?_
  refine Pk ?_
  refine Pk ?_
  refine Pk ?_
  refine Pk ?_
  refine Pa (y_pick_t rfl rfl) ?_
  refine rj_nil (hK15 _ _ _ ?_)
  refine cj_env (eL 0 rfl (eL 1 rfl (eL 5 rfl (eL 6 rfl (eL 7 rfl (eL 97 rfl eN)))))) ?_
  refine cj_cond_t rfl (cj_seq fun K18 hK18 => cj_region ?_)
  refine Ps ?_
  refine rj_nil (hK18 _ _ _ (cj_ret (hret _ _ _ ?_)))
  refine Ea Tryz.results51 (.cons (rv_tmp rfl) .nil) [] le_ ?_
  refine ⟨?_, rfl⟩; rw [decide_eq_false (hne (by rintro rfl; simp at *))]; rfl
  try simp only [dT, dF, nT, nF, tF, fT] at hg47
  refine Pb (Ga Tryz.underlying48 Tryz.sizeOf31) ?_
  first | refine Pb (La o31) ?_ | refine Pb (Ls o31) ?_
  refine Pb (Ga Tryz.underlying48 Tryz.sizeOf31) ?_
  first | refine Pb (La o31) ?_ | refine Pb (Ls o31) ?_
  refine Pb (y_neq rfl rfl) ?_
  refine Pa (y_pick_f rfl rfl) ?_
  refine Pm ?_
  refine rj_part 54 rfl (fun hg54 => ?_) (fun hg54 => ?_)
  try simp only [dT, dF, nT, nF, tF, fT] at hg54
  refine Pk ?_
  refine Pk ?_
  refine Pk ?_
  refine Pk ?_
  refine Pk ?_
  refine Pa (y_pick_t rfl rfl) ?_
  refine Pm ?_
  refine Pk ?_
  refine Pk ?_
  refine Pk ?_
  refine Pk ?_
  refine Pk ?_
  refine Pa (y_pick_t rfl rfl) ?_
  refine Pm ?_
  refine Pk ?_
  refine Pk ?_
  refine Pk ?_
  refine Pk ?_
  refine Pk ?_
  refine Pa (y_pick_t rfl rfl) ?_
  refine Pm ?_
  refine Pk ?_
  refine Pk ?_
  refine Pk ?_
  refine Pk ?_
  refine Pk ?_
  refine Pa (y_pick_t rfl rfl) ?_
  refine Pm ?_
  refine Pk ?_
  refine Pk ?_
  refine Pk ?_
  refine Pk ?_
  refine Pk ?_
  refine Pa (y_pick_t rfl rfl) ?_
  refine Pm ?_
  refine Pk ?_
  refine Pk ?_
  refine Pk ?_
  refine Pk ?_
  refine Pk ?_
  refine Pk ?_
  refine Pk ?_
  refine Pa (y_pick_t rfl rfl) ?_
  refine rj_nil (hK15 _ _ _ ?_)
  refine cj_env (eL 0 rfl (eL 1 rfl (eL 5 rfl (eL 6 rfl (eL 7 rfl (eL 97 rfl eN)))))) ?_
  refine cj_cond_t rfl (cj_seq fun K19 hK19 => cj_region ?_)
  refine Ps ?_
  refine rj_nil (hK19 _ _ _ (cj_ret (hret _ _ _ ?_)))
  refine Ea Tryz.results51 (.cons (rv_tmp rfl) .nil) [] le_ ?_
  refine ⟨?_, rfl⟩; rw [decide_eq_false (hne (by rintro rfl; simp at *))]; rfl
  try simp only [dT, dF, nT, nF, tF, fT] at hg54
  refine Pb (Ga Tryz.underlying48 Tryz.sizeOf31) ?_
  first | refine Pb (La o31) ?_ | refine Pb (Ls o31) ?_
  refine Pb (Ga Tryz.underlying48 Tryz.sizeOf31) ?_
  first | refine Pb (La o31) ?_ | refine Pb (Ls o31) ?_
  refine Pb (y_neq rfl rfl) ?_
  refine Pa (y_pick_f rfl rfl) ?_
  refine Pm ?_
  refine rj_part 61 rfl (fun hg61 => ?_) (fun hg61 => ?_)
  try simp only [dT, dF, nT, nF, tF, fT] at hg61
  refine Pk ?_
  refine Pk ?_
  refine Pk ?_
  refine Pk ?_
  refine Pk ?_
  refine Pa (y_pick_t rfl rfl) ?_
  refine Pm ?_
  refine Pk ?_
  refine Pk ?_
  refine Pk ?_
  refine Pk ?_
  refine Pk ?_
  refine Pa (y_pick_t rfl rfl) ?_
  refine Pm ?_
  refine Pk ?_
  refine Pk ?_
  refine Pk ?_
  refine Pk ?_
  refine Pk ?_
  refine Pa (y_pick_t rfl rfl) ?_
  refine Pm ?_
  refine Pk ?_
  refine Pk ?_
  refine Pk ?_
  refine Pk ?_
  refine Pk ?_
  refine Pa (y_pick_t rfl rfl) ?_
  refine Pm ?_
  refine Pk ?_
  refine Pk ?_
  refine Pk ?_
  refine Pk ?_
  refine Pk ?_
  refine Pk ?_
  refine Pk ?_
  refine Pa (y_pick_t rfl rfl) ?_
  refine rj_nil (hK15 _ _ _ ?_)
  refine cj_env (eL 0 rfl (eL 1 rfl (eL 5 rfl (eL 6 rfl (eL 7 rfl (eL 97 rfl eN)))))) ?_
  refine cj_cond_t rfl (cj_seq fun K20 hK20 => cj_region ?_)
  refine Ps ?_
  refine rj_nil (hK20 _ _ _ (cj_ret (hret _ _ _ ?_)))
  refine Ea Tryz.results51 (.cons (rv_tmp rfl) .nil) [] le_ ?_
  refine ⟨?_, rfl⟩; rw [decide_eq_false (hne (by rintro rfl; simp at *))]; rfl
  try simp only [dT, dF, nT, nF, tF, fT] at hg61
  refine Pb (Ga Tryz.underlying48 Tryz.sizeOf31) ?_
  first | refine Pb (La o31) ?_ | refine Pb (Ls o31) ?_
  refine Pb (Ga Tryz.underlying48 Tryz.sizeOf31) ?_
  first | refine Pb (La o31) ?_ | refine Pb (Ls o31) ?_
  refine Pb (y_neq rfl rfl) ?_
  refine Pa (y_pick_f rfl rfl) ?_
  refine Pm ?_
  refine rj_part 68 rfl (fun hg68 => ?_) (fun hg68 => ?_)
  try simp only [dT, dF, nT, nF, tF, fT] at hg68
  refine Pk ?_
  refine Pk ?_
  refine Pk ?_
  refine Pk ?_
  refine Pk ?_
  refine Pa (y_pick_t rfl rfl) ?_
  refine Pm ?_
  refine Pk ?_
  refine Pk ?_
  refine Pk ?_
  refine Pk ?_
  refine Pk ?_
  refine Pa (y_pick_t rfl rfl) ?_
  refine Pm ?_
  refine Pk ?_
  refine Pk ?_
  refine Pk ?_
  refine Pk ?_
  refine Pk ?_
  refine Pa (y_pick_t rfl rfl) ?_
  refine Pm ?_
  refine Pk ?_
  refine Pk ?_
  refine Pk ?_
  refine Pk ?_
  refine Pk ?_
  refine Pk ?_
  refine Pk ?_
  refine Pa (y_pick_t rfl rfl) ?_
  refine rj_nil (hK15 _ _ _ ?_)
  refine cj_env (eL 0 rfl (eL 1 rfl (eL 5 rfl (eL 6 rfl (eL 7 rfl (eL 97 rfl eN)))))) ?_
  refine cj_cond_t rfl (cj_seq fun K21 hK21 => cj_region ?_)
  refine Ps ?_
  refine rj_nil (hK21 _ _ _ (cj_ret (hret _ _ _ ?_)))
  refine Ea Tryz.results51 (.cons (rv_tmp rfl) .nil) [] le_ ?_
  refine ⟨?_, rfl⟩; rw [decide_eq_false (hne (by rintro rfl; simp at *))]; rfl
  try simp only [dT, dF, nT, nF, tF, fT] at hg68
  refine Pb (Ga Tryz.underlying48 Tryz.sizeOf31) ?_
  first | refine Pb (La o31) ?_ | refine Pb (Ls o31) ?_
  refine Pb (Ga Tryz.underlying48 Tryz.sizeOf31) ?_
  first | refine Pb (La o31) ?_ | refine Pb (Ls o31) ?_
  refine Pb (y_neq rfl rfl) ?_
  refine Pa (y_pick_f rfl rfl) ?_
  refine Pm ?_
  refine rj_part 75 rfl (fun hg75 => ?_) (fun hg75 => ?_)
  try simp only [dT, dF, nT, nF, tF, fT] at hg75
  refine Pk ?_
  refine Pk ?_
  refine Pk ?_
  refine Pk ?_
  refine Pk ?_
  refine Pa (y_pick_t rfl rfl) ?_
  refine Pm ?_
  refine Pk ?_
  refine Pk ?_
  refine Pk ?_
  refine Pk ?_
  refine Pk ?_
  refine Pa (y_pick_t rfl rfl) ?_
  refine Pm ?_
  refine Pk ?_
  refine Pk ?_
  refine Pk ?_
  refine Pk ?_
  refine Pk ?_
  refine Pk ?_
  refine Pk ?_
  refine Pa (y_pick_t rfl rfl) ?_
  refine rj_nil (hK15 _ _ _ ?_)
  refine cj_env (eL 0 rfl (eL 1 rfl (eL 5 rfl (eL 6 rfl (eL 7 rfl (eL 97 rfl eN)))))) ?_
  refine cj_cond_t rfl (cj_seq fun K22 hK22 => cj_region ?_)
  refine Ps ?_
  refine rj_nil (hK22 _ _ _ (cj_ret (hret _ _ _ ?_)))
  refine Ea Tryz.results51 (.cons (rv_tmp rfl) .nil) [] le_ ?_
  refine ⟨?_, rfl⟩; rw [decide_eq_false (hne (by rintro rfl; simp at *))]; rfl
  try simp only [dT, dF, nT, nF, tF, fT] at hg75
  refine Pb (Ga Tryz.underlying48 Tryz.sizeOf4) ?_
  first | refine Pb (La o4) ?_ | refine Pb (Ls o4) ?_
  refine Pb (Ga Tryz.underlying48 Tryz.sizeOf4) ?_
  first | refine Pb (La o4) ?_ | refine Pb (Ls o4) ?_
  refine Pb (y_bneq Tryz.underlying4 rfl rfl) ?_
  refine Pa (y_pick_f rfl rfl) ?_
  refine Pm ?_
  refine rj_part 82 rfl (fun hg82 => ?_) (fun hg82 => ?_)
  try simp only [dT, dF, nT, nF, tF, fT] at hg82
  refine Pk ?_
  refine Pk ?_
  refine Pk ?_
  refine Pk ?_
  refine Pk ?_
  refine Pa (y_pick_t rfl rfl) ?_
  refine Pm ?_
  refine Pk ?_
  refine Pk ?_
  refine Pk ?_
  refine Pk ?_
  refine Pk ?_
  refine Pk ?_
  refine Pk ?_
  refine Pa (y_pick_t rfl rfl) ?_
  refine rj_nil (hK15 _ _ _ ?_)
  refine cj_env (eL 0 rfl (eL 1 rfl (eL 5 rfl (eL 6 rfl (eL 7 rfl (eL 97 rfl eN)))))) ?_
  refine cj_cond_t rfl (cj_seq fun K23 hK23 => cj_region ?_)
  refine Ps ?_
  refine rj_nil (hK23 _ _ _ (cj_ret (hret _ _ _ ?_)))
  refine Ea Tryz.results51 (.cons (rv_tmp rfl) .nil) [] le_ ?_
  refine ⟨?_, rfl⟩; rw [decide_eq_false (hne (by rintro rfl; simp at *))]; rfl
  try simp only [dT, dF, nT, nF, tF, fT] at hg82
  refine Pb (Ga Tryz.underlying48 Tryz.sizeOf9) ?_
  first | refine Pb (La o9) ?_ | refine Pb (Ls o9) ?_
  refine Pb (Ga Tryz.underlying48 Tryz.sizeOf9) ?_
  first | refine Pb (La o9) ?_ | refine Pb (Ls o9) ?_
  refine Pb (y_sneq rfl rfl) ?_
  refine Pa (y_pick_f rfl rfl) ?_
  refine Pm ?_
  refine rj_part 89 rfl (fun hg89 => ?_) (fun hg89 => ?_)
  try simp only [dT, dF, nT, nF, tF, fT] at hg89
  refine Pk ?_
  refine Pk ?_
  refine Pk ?_
  refine Pk ?_
  refine Pk ?_
  refine Pk ?_
  refine Pk ?_
  refine Pa (y_pick_t rfl rfl) ?_
  refine rj_nil (hK15 _ _ _ (cj_cond_t rfl (cj_seq fun K24 hK24 => cj_region ?_)))
  refine Ps ?_
  refine rj_nil (hK24 _ _ _ (cj_ret (hret _ _ _ ?_)))
  refine Ea Tryz.results51 (.cons (rv_tmp rfl) .nil) [] le_ ?_
  refine ⟨?_, rfl⟩; rw [decide_eq_false (hne (by rintro rfl; simp at *))]; rfl
  try simp only [dT, dF, nT, nF, tF, fT] at hg89
  refine Pb (Ga Tryz.underlying48 Tryz.sizeOf32) ?_
  first | refine Pb (La o32) ?_ | refine Pb (Ls o32) ?_
  first | refine Pb (y_len_sl Tryz.underlying32 rfl) ?_ | refine Pb (y_len_slc Tryz.underlying32 rfl fd_) ?_
  refine Pb (Ga Tryz.underlying48 Tryz.sizeOf32) ?_
  first | refine Pb (La o32) ?_ | refine Pb (Ls o32) ?_
  first | refine Pb (y_len_sl Tryz.underlying32 rfl) ?_ | refine Pb (y_len_slc Tryz.underlying32 rfl fd_) ?_
  refine Pb (y_neq rfl rfl) ?_
  refine Pa (y_pick_f rfl rfl) ?_
  refine rj_nil (hK15 _ _ _ ?_)
  refine cj_env (eL 0 rfl (eL 1 rfl (eL 5 rfl (eL 6 rfl (eL 7 rfl (eL 97 rfl eN)))))) ?_
  refine cj_cond rfl (fun hc97 => ?_) (fun hc97 => ?_)
  try simp only [dT, dF, nT, nF, tF, fT] at hc97
  refine cj_seq fun K26 hK26 => cj_region ?_
  refine Ps ?_
  refine rj_nil (hK26 _ _ _ (cj_ret (hret _ _ _ ?_)))
  refine Ea Tryz.results51 (.cons (rv_tmp rfl) .nil) [] le_ ?_
  refine ⟨?_, rfl⟩; rw [decide_eq_false (hne (by rintro rfl; simp at *))]; rfl
  try simp only [dT, dF, nT, nF, tF, fT] at hc97
  refine cj_skip (hK14 _ _ _ (cj_seq fun K27 hK27 => cj_region ?_))
  refine Ps ?_
  refine rj_nil (hK27 _ _ _ (cj_block ?_))
  have hel : x.es.length = y.es.length := by (try simp at hc97); omega
  refine cj_env (E' := (fun (z : Nat) => [(0, .slice (some ⟨b, off, none⟩) la.length ca), (1, .slice (some ⟨b', off', none⟩) lb.length cb), (5, .int .i64 (i : Int)), (6, .pointer (some ⟨b6, 0, none⟩)), (7, .pointer (some ⟨b7, 0, none⟩)), (8, .int .i64 (z : Int))]) 0) (eC rfl (eC rfl (eC rfl (eC rfl (eC rfl (eC rfl eN)))))) ?_
  refine cj_sub (M := (fun (z : Nat) => blk b6 (msgC x (.slice qe x.es.length ce)) 48 :: blk b7 (msgC y (.slice qe' y.es.length ce')) 48 :: F) 0) sb_ ?_
  refine cj_loop (fun (z : Nat) => [(0, .slice (some ⟨b, off, none⟩) la.length ca), (1, .slice (some ⟨b', off', none⟩) lb.length cb), (5, .int .i64 (i : Int)), (6, .pointer (some ⟨b6, 0, none⟩)), (7, .pointer (some ⟨b7, 0, none⟩)), (8, .int .i64 (z : Int))]) (fun (z : Nat) => R) (fun (z : Nat) => blk b6 (msgC x (.slice qe x.es.length ce)) 48 :: blk b7 (msgC y (.slice qe' y.es.length ce')) 48 :: F) (fun (z : Nat) => z ≤ x.es.length ∧ x.es.take z = y.es.take z) (fun (z : Nat) => x.es.length - z) 0 (⟨by simp, by simp⟩) ?_
  rintro k ⟨hk, hall2⟩
  try dsimp only
  refine cj_seq fun K28 hK28 => cj_seq fun K29 hK29 => cj_region ?_
  refine Pm ?_
  refine Pa (Ga Tryz.underlying48 Tryz.sizeOf32) ?_
  first | refine Pa (La o32) ?_ | refine Pa (Ls o32) ?_
  first | refine Pa (y_len_sl Tryz.underlying32 rfl) ?_ | refine Pa (y_len_slc Tryz.underlying32 rfl fd_) ?_
  refine Pa (y_lss rfl rfl) ?_
  refine rj_nil (hK29 _ _ _ ?_)
  refine cj_cond rfl (fun hc102 => ?_) (fun hc102 => ?_)
  try simp only [dT, dF, nT, nF, tF, fT] at hc102
  refine cj_skip (hK28 _ _ _ (cj_seq fun K31 hK31 => cj_block (cj_seq fun K32 hK32 => ?_)))
  refine cj_draw (by kernel_rfl) (by kernel_rfl) ?_
  obtain ⟨ex, hex⟩ : ∃ e, x.es[k]? = some e := ⟨x.es[k]'(by omega), by simp⟩
  obtain ⟨ey, hey⟩ : ∃ e, y.es[k]? = some e := ⟨y.es[k]'(by omega), by simp⟩
  obtain ⟨b2, off2, cap2, cs2, he2, rfl, hcl2, hcell2⟩ := hve.at hex
  obtain ⟨b3, off3, cap3, cs3, he3, rfl, hcl3, hcell3⟩ := hve'.at hey
  obtain ⟨rfl, rfl⟩ : qe = some ⟨b2, off2, none⟩ ∧ ce = cap2 := by cases he2; exact ⟨rfl, rfl⟩
  obtain ⟨rfl, rfl⟩ : qe' = some ⟨b3, off3, none⟩ ∧ ce' = cap3 := by cases he3; exact ⟨rfl, rfl⟩
  refine Qa (Ga Tryz.underlying48 Tryz.sizeOf32) ?_
  first | refine Qa (La o32) ?_ | refine Qa (Ls o32) ?_
  refine Qa (y_move rfl) ?_
  first | refine Qa (y_indexAddr Tryz.underlying32 Tryz.sizeOf60 rfl rfl om_) ?_ | refine Qa (y_index_slc Tryz.underlying32 Tryz.sizeOf60 rfl rfl fd_ om_) ?_
  refine Qa ((y_loads_ro m60 (vs := entC ex) rfl rfl (fun j u hj => hcell2 j u hj))) ?_
  refine Qa (Ga Tryz.underlying48 Tryz.sizeOf32) ?_
  first | refine Qa (La o32) ?_ | refine Qa (Ls o32) ?_
  refine Qa (y_move rfl) ?_
  first | refine Qa (y_indexAddr Tryz.underlying32 Tryz.sizeOf60 rfl rfl om_) ?_ | refine Qa (y_index_slc Tryz.underlying32 Tryz.sizeOf60 rfl rfl fd_ om_) ?_
  refine Qa ((y_loads_ro m60 (vs := entC ey) rfl rfl (fun j u hj => hcell3 j u hj))) ?_
  refine Qa ((y_stneq (by kernel_rfl) rfl rfl (fun w => ent_neq ex ey w))) ?_
  refine qj_nil ?_
  refine hK32 _ _ _ ?_
  refine cj_env (eL 0 rfl (eL 1 rfl (eL 5 rfl (eL 6 rfl (eL 7 rfl (eL 8 rfl (eL 115 rfl eN))))))) ?_
  refine cj_cond rfl (fun hc115 => ?_) (fun hc115 => ?_)
  try simp only [dT, dF, nT, nF, tF, fT] at hc115
  refine cj_seq fun K34 hK34 => cj_region ?_
  refine Ps ?_
  refine rj_nil (hK34 _ _ _ (cj_ret (hret _ _ _ ?_)))
  refine Ea Tryz.results51 (.cons (rv_tmp rfl) .nil) [] le_ ?_
  refine ⟨?_, rfl⟩; rw [decide_eq_false (hne (by rintro rfl; rw [hex] at hey; cases hey; simp at hc115))]; rfl
  try simp only [dT, dF, nT, nF, tF, fT] at hc115
  refine cj_skip (hK31 _ _ _ (cj_region ?_))
  refine Pm ?_
  first | refine Pa (y_add64 rfl rfl om_) ?_ | refine Pa (y_add rfl rfl) ?_
  refine Ps ?_
  refine rj_nil ?_
  refine ej_on (q' := roundK _ _ _ _ _ _ _) rfl ?_
  refine ej_round (k + 1) (⟨by omega, takes_succ hex hey hall2 (by simpa using hc115)⟩) (by omega) (eC rfl (eC rfl (eC rfl (eC rfl (eC rfl (eC rfl eN)))))) rfl sb_
  try simp only [dT, dF, nT, nF, tF, fT] at hc102
  refine cj_exit (hK11 _ _ _ (cj_region ?_))
  have hes : x.es = y.es := by have e := hall2; rw [List.take_of_length_le (by (try simp at hc102); omega), List.take_of_length_le (by (try simp at hc102); omega)] at e; exact e
  have hxy : x = y := msg_eq hg33 hg40 hg47 hg54 hg61 hg68 hg75 (by simpa using hg82) hes hg89
  refine Pm ?_
  first | refine Pa (y_add64 rfl rfl om_) ?_ | refine Pa (y_add rfl rfl) ?_
  refine Ps ?_
  refine rj_nil ?_
  refine ej_on (q' := roundK _ _ _ _ _ _ _) rfl ?_
  refine ej_round (i + 1) (⟨by omega, takes_succ hx hy hall hxy⟩) (by omega) (eC rfl (eC rfl (eC rfl eN))) rfl sb_
  try simp only [dT, dF, nT, nF, tF, fT] at hc17
  refine cj_exit (hK6 _ _ _ ?_)
  refine cj_env eN ?_
  refine cj_seq fun K35 hK35 => cj_region ?_
  refine Ps ?_
  refine rj_nil (hK35 _ _ _ (cj_ret (hret _ _ _ ?_)))
  refine Ea Tryz.results51 (.cons (rv_tmp rfl) .nil) [] le_ ?_
  refine ⟨?_, rfl⟩; have e := hall; rw [List.take_of_length_le (by (try simp at hc17); omega), List.take_of_length_le (by (try simp at hc17); omega)] at e; rw [decide_eq_true e]; rfl
end V
end Go.Proofs.YtjdbigplednihaaGreat
