/- A stack of open nodes in memory. -/
import Derived.Test.YtcficaboohpmdaaT3q
import Derived.Test.YtcficaboohpmdaaT3h
set_option linter.unusedSimpArgs false
set_option linter.unusedVariables false
namespace Go.Proofs.Ytcficaboohpmdaa
open Go.RowKit
namespace V
set_option maxHeartbeats 4000000
/-- an open node: its kids' slice, the kids, their cells -/
abbrev FrT := Value × List Nd × List (List Value)
@[reducible] def frA (f : FrT) : Asn := slc 26 4 f.1 f.2.1.length f.2.2.flatten
/-- the open nodes' cells, the lowest first (the list has the top first) -/
def hdrs : List FrT → List Value
  | [] => []
  | f :: rest => hdrs rest ++ [.int .i64 2, .int .u64 0, .string (str []), f.1]
theorem hdrs_len : ∀ fs : List FrT, (hdrs fs).length = fs.length * 4
  | [] => rfl
  | f :: rest => by rw [hdrs, List.length_append, hdrs_len rest, List.length_cons]; simp; omega
theorem hdrs_top (f : FrT) (rest : List FrT) : ((hdrs (f :: rest)).drop (rest.length * 4)).take 4 = [.int .i64 2, .int .u64 0, .string (str []), f.1] := by
  rw [hdrs, ← hdrs_len rest, List.drop_left]; rfl
theorem hdrs_kids (f : FrT) (rest : List FrT) : nth (hdrs (f :: rest)) (rest.length * 4 + 3) = some f.1 := by
  rw [nth_eq, hdrs, ← hdrs_len rest, List.getElem?_append_right (by omega), Nat.add_sub_cancel_left]; rfl
theorem hdrs_set (f : FrT) (rest : List FrT) (v : Value) (ks : List Nd) (css : List (List Value)) : setNth (hdrs (f :: rest)) (rest.length * 4 + 3) v = hdrs ((v, ks, css) :: rest) := by
  rw [setNth_eq, hdrs, hdrs, ← hdrs_len rest, List.set_append_right _ _ (by omega), Nat.add_sub_cancel_left]; rfl
theorem hdrs_pop (f : FrT) (rest : List FrT) : (hdrs (f :: rest)).take (rest.length * 4) = hdrs rest := by
  rw [hdrs, ← hdrs_len rest, List.take_left]
theorem hdrs_one (fs : List FrT) (h : ∀ f ∈ fs, f.1.oneCell' = true) : ∀ u ∈ hdrs fs, u.oneCell' = true := by
  induction fs with
  | nil => intro u hu; simp [hdrs] at hu
  | cons f rest ih =>
    intro u hu
    rw [hdrs] at hu
    rcases List.mem_append.1 hu with hu | hu
    · exact ih (fun g hg => h g (by simp [hg])) u hu
    · simp at hu
      rcases hu with rfl | rfl | rfl | rfl
      · rfl
      · rfl
      · rfl
      · exact h f (by simp)
theorem hdrs_top2 (f : FrT) (rest : List FrT) {n : Nat} (hn : n = rest.length) : ((hdrs (f :: rest)).drop (n * 4)).take 4 = [.int .i64 2, .int .u64 0, .string (str []), f.1] := by subst hn; exact hdrs_top f rest
theorem four_one {v : Value} (hv : v.oneCell' = true) : ∀ u ∈ [Value.int .i64 2, .int .u64 0, .string (str []), v], u.oneCell' = true := by
  intro u hu
  simp only [List.mem_cons, List.not_mem_nil, or_false] at hu
  rcases hu with rfl | rfl | rfl | rfl
  · rfl
  · rfl
  · rfl
  · exact hv
theorem Kids.flat {R : Hp} {ks : List Nd} {css : List (List Value)} (k : Kids R ks css) : css.flatten.length = ks.length * 4 := by
  rw [← k.1]
  have h4 := k.four
  clear k
  induction css with
  | nil => rfl
  | cons c css ih => rw [List.flatten_cons, List.length_append, ih (fun x hx => h4 x (by simp [hx])), h4 c (by simp), List.length_cons]; omega
theorem flat_set {R : Hp} {ks : List Nd} {css : List (List Value)} (k : Kids R ks css) (v : Value) {zs vs : List Value} (hz : zs.length = 4) (hv : vs.length = 4) :
    (css.flatten ++ zs).take (ks.length * 4) ++ vs ++ (css.flatten ++ zs).drop (ks.length * 4 + vs.length) = (css ++ [vs]).flatten := by
  rw [← k.flat, List.take_left, List.drop_of_length_le (by simp; omega)]
  simp
theorem shut_t {R : Hp} (b : Nat) (v : Value) (f g : FrT) (rest : List FrT) (hf : Kids R f.2.1 f.2.2) (hg : Kids R g.2.1 g.2.2) (hr : rest.length ≤ 1000) (hfl : f.2.1.length ≤ 1000) (hgl : g.2.1.length ≤ 1000) :
    Tri Try.prog 29 [.pointer (some ⟨b, 0, none⟩)] R [blk b [v] 24, slc 26 4 v (rest.length + 2) (hdrs (f :: g :: rest)), frA f, frA g]
    (fun r R' L' => ∃ v' g', g'.2.1 = g.2.1 ++ [Nd.mk 2 0 [] f.2.1] ∧ Kids R' g'.2.1 g'.2.2 ∧ L' = [blk b [v'] 24, slc 26 4 v' (rest.length + 1) (hdrs (g' :: rest)), frA g']) := by
  refine tri_of Try.func29 rfl Try.ntmps29 rfl (fun σ F Q hret hend hpan => ?_)
  try simp only [List.cons_append, List.nil_append]
  refine cj_env (Env.le_cons (t := 0) rfl (Env.le_nil _)) ?_
  refine cj_pure (A := slc 26 4 v (rest.length + 2) (hdrs (f :: g :: rest))) (by ((repeat (first | exact Find.head _ | apply Find.tail)); done)) slc_one (fun hvo => ?_)
  refine cj_pure (A := frA f) (by ((repeat (first | exact Find.head _ | apply Find.tail)); done)) slc_one (fun hfo => ?_)
  refine cj_pure (A := frA g) (by ((repeat (first | exact Find.head _ | apply Find.tail)); done)) slc_one (fun hgo => ?_)
  refine cj_seq (fun K1 hK1 => ?_)
  refine cj_region ?_
  first | refine rj_val (wn0 rfl) rfl rfl (y_load ⟨Try.isAgg24, Try.sizeOf24⟩ rfl (by ((repeat (first | exact Find.head _ | apply Find.tail)); done)) rfl) ?_ | refine rj_val (wn0 rfl) rfl rfl (y_load_slc ⟨Try.isAgg24, Try.sizeOf24⟩ rfl (by ((repeat (first | exact Find.head _ | apply Find.tail)); done)) rfl) ?_
  first | refine rj_val (wn0 rfl) rfl rfl (y_load ⟨Try.isAgg24, Try.sizeOf24⟩ rfl (by ((repeat (first | exact Find.head _ | apply Find.tail)); done)) rfl) ?_ | refine rj_val (wn0 rfl) rfl rfl (y_load_slc ⟨Try.isAgg24, Try.sizeOf24⟩ rfl (by ((repeat (first | exact Find.head _ | apply Find.tail)); done)) rfl) ?_
  first | refine rj_val (wn0 rfl) rfl rfl (y_len_sl Try.underlying24 rfl) ?_ | refine rj_val (wn0 rfl) rfl rfl (y_len_slc Try.underlying24 rfl (by ((repeat (first | exact Find.head _ | apply Find.tail)); done))) ?_
  first | refine rj_val (wn0 rfl) rfl rfl (y_sub64 rfl rfl (by (first | omega | (dsimp only; omega) | (simp; done) | (simp; omega)))) ?_ | refine rj_val (wn0 rfl) rfl rfl (y_sub rfl rfl) ?_
  refine rj_eq 6 rfl (v' := .int .i64 ((rest.length + 1 : Nat) : Int)) (by congr 1; omega) ?_
  first | refine rj_val (wn0 rfl) rfl rfl (y_indexAddr Try.underlying24 Try.sizeOf26 rfl rfl (by (first | omega | (dsimp only; omega) | (simp; done) | (simp; omega)))) ?_ | refine rj_val (wn0 rfl) rfl rfl (y_index_slc Try.underlying24 Try.sizeOf26 rfl rfl (by ((repeat (first | exact Find.head _ | apply Find.tail)); done)) (by (first | omega | (dsimp only; omega) | (simp; done) | (simp; omega)))) ?_
  refine rj_val (wn0 rfl) rfl rfl ((y_loads_slc ⟨Try.isAgg26, Try.sizeOf26⟩ rfl (by ((repeat (first | exact Find.head _ | apply Find.tail)); done)) (hdrs_top2 f (g :: rest) rfl) rfl (by omega))) ?_
  refine rj_alloc (wn0 rfl) rfl Try.zeroValue26 rfl (fun b1 => ?_)
  refine rj_stores ⟨Try.isAgg26, Try.sizeOf26⟩ rfl (wn0 rfl) rfl rfl (by (first | (simp [Value.oneCell']; done) | (intro u hu; simp only [List.mem_cons, List.not_mem_nil, or_false] at hu; rcases hu with rfl | rfl | rfl | rfl <;> first | rfl | assumption))) (by ((repeat (first | exact Find.head _ | apply Find.tail)); done)) (by (simp)) rfl ?_
  refine rj_nil ?_
  refine hK1 _ _ _ ?_
  refine cj_env (Env.le_cons (t := 0) rfl (Env.le_cons (t := 1) rfl (Env.le_nil _))) ?_
  refine cj_seq (fun K2 hK2 => ?_)
  refine cj_region ?_
  first | refine rj_val (wn0 rfl) rfl rfl (y_load ⟨Try.isAgg24, Try.sizeOf24⟩ rfl (by ((repeat (first | exact Find.head _ | apply Find.tail)); done)) rfl) ?_ | refine rj_val (wn0 rfl) rfl rfl (y_load_slc ⟨Try.isAgg24, Try.sizeOf24⟩ rfl (by ((repeat (first | exact Find.head _ | apply Find.tail)); done)) rfl) ?_
  first | refine rj_val (wn0 rfl) rfl rfl (y_load ⟨Try.isAgg24, Try.sizeOf24⟩ rfl (by ((repeat (first | exact Find.head _ | apply Find.tail)); done)) rfl) ?_ | refine rj_val (wn0 rfl) rfl rfl (y_load_slc ⟨Try.isAgg24, Try.sizeOf24⟩ rfl (by ((repeat (first | exact Find.head _ | apply Find.tail)); done)) rfl) ?_
  first | refine rj_val (wn0 rfl) rfl rfl (y_len_sl Try.underlying24 rfl) ?_ | refine rj_val (wn0 rfl) rfl rfl (y_len_slc Try.underlying24 rfl (by ((repeat (first | exact Find.head _ | apply Find.tail)); done))) ?_
  first | refine rj_val (wn0 rfl) rfl rfl (y_sub64 rfl rfl (by (first | omega | (dsimp only; omega) | (simp; done) | (simp; omega)))) ?_ | refine rj_val (wn0 rfl) rfl rfl (y_sub rfl rfl) ?_
  refine rj_eq 12 rfl (v' := .int .i64 ((rest.length + 1 : Nat) : Int)) (by congr 1; omega) ?_
  refine rj_val (wn0 rfl) rfl rfl (y_slice_slc Try.underlying24 Try.sizeOf26 rfl (by ((repeat (first | exact Find.head _ | apply Find.tail)); done)) rfl ⟨_, rfl⟩ (by (first | omega | (dsimp only; omega) | (simp; done) | (simp; omega)))) ?_
  refine rj_store ⟨Try.isAgg24, Try.sizeOf24⟩ (wn0 rfl) rfl rfl (by (first | rfl | assumption | (apply cutV_one; assumption))) (by ((repeat (first | exact Find.head _ | apply Find.tail)); done)) rfl rfl ?_
  refine rj_nil ?_
  refine hK2 _ _ _ ?_
  refine cj_env (Env.le_cons (t := 0) rfl (Env.le_cons (t := 1) rfl (Env.le_nil _))) ?_
  refine cj_seq (fun K3 hK3 => ?_)
  refine cj_region ?_
  refine rj_turn (A := slc 26 4 v (rest.length + 2) (hdrs (f :: g :: rest))) (B := slc 26 4 (cutV v 0 (rest.length + 1) 4) (rest.length + 1) (hdrs (g :: rest))) (by ((repeat (first | exact Find.head _ | apply Find.tail)); done)) (fun h hh => by have := slc_cut (Nat.zero_le (rest.length + 1)) (by omega) h hh; rw [Nat.zero_mul, List.drop_zero, Nat.sub_zero, show (rest.length + 1) * 4 = (g :: rest).length * 4 from rfl, hdrs_pop] at this; exact this) ?_
  obtain ⟨v2, hv2⟩ : ∃ v2, v2 = cutV v 0 (rest.length + 1) 4 := ⟨_, rfl⟩
  rw [← hv2]
  first | refine rj_val (wn0 rfl) rfl rfl (y_load ⟨Try.isAgg24, Try.sizeOf24⟩ rfl (by ((repeat (first | exact Find.head _ | apply Find.tail)); done)) rfl) ?_ | refine rj_val (wn0 rfl) rfl rfl (y_load_slc ⟨Try.isAgg24, Try.sizeOf24⟩ rfl (by ((repeat (first | exact Find.head _ | apply Find.tail)); done)) rfl) ?_
  first | refine rj_val (wn0 rfl) rfl rfl (y_load ⟨Try.isAgg24, Try.sizeOf24⟩ rfl (by ((repeat (first | exact Find.head _ | apply Find.tail)); done)) rfl) ?_ | refine rj_val (wn0 rfl) rfl rfl (y_load_slc ⟨Try.isAgg24, Try.sizeOf24⟩ rfl (by ((repeat (first | exact Find.head _ | apply Find.tail)); done)) rfl) ?_
  first | refine rj_val (wn0 rfl) rfl rfl (y_len_sl Try.underlying24 rfl) ?_ | refine rj_val (wn0 rfl) rfl rfl (y_len_slc Try.underlying24 rfl (by ((repeat (first | exact Find.head _ | apply Find.tail)); done))) ?_
  first | refine rj_val (wn0 rfl) rfl rfl (y_sub64 rfl rfl (by (first | omega | (dsimp only; omega) | (simp; done) | (simp; omega)))) ?_ | refine rj_val (wn0 rfl) rfl rfl (y_sub rfl rfl) ?_
  refine rj_eq 17 rfl (v' := .int .i64 ((rest.length : Nat) : Int)) (by congr 1; omega) ?_
  first | refine rj_val (wn0 rfl) rfl rfl (y_indexAddr Try.underlying24 Try.sizeOf26 rfl rfl (by (first | omega | (dsimp only; omega) | (simp; done) | (simp; omega)))) ?_ | refine rj_val (wn0 rfl) rfl rfl (y_index_slc Try.underlying24 Try.sizeOf26 rfl rfl (by ((repeat (first | exact Find.head _ | apply Find.tail)); done)) (by (first | omega | (dsimp only; omega) | (simp; done) | (simp; omega)))) ?_
  refine rj_val (wn0 rfl) rfl rfl (y_assign rfl) ?_
  refine rj_nil ?_
  refine hK3 _ _ _ ?_
  refine cj_env (Env.le_cons (t := 1) rfl (Env.le_cons (t := 2) rfl (Env.le_nil _))) ?_
  refine cj_freeze (e := 26) (sz := 4) (n := f.2.1.length) (v := f.1) (xs := f.2.2.flatten) (by ((repeat (first | exact Find.head _ | apply Find.tail)); done)) (fun R2 hR2 hfr hxl => ?_)
  obtain ⟨q, cap, hq, hrl⟩ := (hf.mono hR2).repL hfr (by unfold big; omega)
  refine cj_mixt (L := [blk b1 [.int .i64 2, .int .u64 0, .string (str []), f.1] 26, slc 26 4 v2 (rest.length + 1) (hdrs (g :: rest)), frA g]) [0, 1, 2, 3, 4, 5] [6] [7, 8, 9, 10, 11, 12] _ (by (repeat (first | exact Sub.refl _ | (apply Sub.pick; focus (repeat (first | exact Find.head _ | apply Find.tail))) | apply Sub.drop))) (by kernel_rfl) (by kernel_rfl) ?_
  refine fj_val rfl rfl rfl (wn0 rfl) (fun R1 hR1 G => (y_move rfl)) ?_
  refine fj_val rfl rfl rfl (wn0 rfl) (fun R1 hR1 G => (y_nilCheck_slc (sz := 4) (n := rest.length + 1) rfl (by ((repeat (first | exact Find.head _ | apply Find.tail)); done)) (by omega))) ?_
  refine fj_val rfl rfl rfl (wn0 rfl) (fun R1 hR1 G => (y_fieldAddr_slc (k := 3) Try.underlying26 rfl (m := 1) (by decide) Try.sizeOf24 rfl (by ((repeat (first | exact Find.head _ | apply Find.tail)); done)) (by omega))) ?_
  refine fj_val rfl rfl rfl (wn0 rfl) (fun R1 hR1 G => (y_load_slc ⟨Try.isAgg24, Try.sizeOf24⟩ rfl (by ((repeat (first | exact Find.head _ | apply Find.tail)); done)) (hdrs_kids g rest))) ?_
  first | refine fj_val rfl rfl rfl (wn0 rfl) (fun R1 hR1 G => (y_loads_blk ⟨Try.isAgg26, Try.sizeOf26⟩ rfl (by ((repeat (first | exact Find.head _ | apply Find.tail)); done)) rfl rfl)) ?_ | refine fj_val rfl rfl rfl (wn0 rfl) (fun R1 hR1 G => (y_loads_slc ⟨Try.isAgg26, Try.sizeOf26⟩ rfl (by ((repeat (first | exact Find.head _ | apply Find.tail)); done)) rfl rfl (by (first | omega | (dsimp only; omega) | (simp; done) | (simp; omega))))) ?_
  refine fj_val rfl rfl rfl (wn0 rfl) (fun R1 hR1 G => (y_len_slc Try.underlying24 rfl (by ((repeat (first | exact Find.head _ | apply Find.tail)); done)))) ?_
  refine fj_nil ?_
  refine xj_rj rfl ?_
  try simp only [List.cons_append, List.nil_append, List.append_nil]
  refine rj_buildSlice (sz := 4) (wn0 rfl) rfl Try.underlying24 Try.sizeOf26 Try.zeroValue26 rfl rfl rfl (by decide) (by decide) (fun bz => ?_)
  refine rj_xk (by (first | exact Hp.le_refl _ | assumption | exact Hp.le_trans ‹_› ‹_›)) (by (repeat (first | exact Sub.refl _ | (apply Sub.pick; focus (repeat (first | exact Find.head _ | apply Find.tail))) | apply Sub.drop))) ?_
  refine xj_nil ?_
  try simp only [List.cons_append, List.nil_append, List.append_nil]
  refine tj_all (rs := [7]) (by kernel_rfl) (by decide) ⟨⟨_, rfl, ?_⟩, trivial⟩
  refine rj_append (sz := 4) (by_ := 56) ⟨Try.underlying24, _, _, rfl, rfl, rfl, rfl, rfl⟩ (wn0 rfl) rfl rfl rfl (by ((repeat (first | exact Find.head _ | apply Find.tail)); done)) (src_slc (xs := [.int .i64 0, .int .u64 0, .string (str []), .slice none 0 0]) Try.underlying24 (by ((repeat (first | exact Find.head _ | apply Find.tail)); done)) (by (first | (simp [Value.oneCell']; done) | (intro u hu; simp only [List.mem_cons, List.not_mem_nil, or_false] at hu; rcases hu with rfl | rfl | rfl | rfl <;> first | rfl | assumption)))) rfl (by (first | omega | (dsimp only; omega) | (simp; done) | (simp; omega))) (by simp only [maxLen]; omega) (fun v26 ho26 hh26 => ?_)
  rw [len_snoc g.2.1 (Nd.mk 2 0 [] f.2.1)]
  refine rj_tj ?_
  refine tj_all (rs := [8, 10]) (by kernel_rfl) (by decide) ⟨⟨_, rfl, ?_⟩, ⟨_, rfl, ?_⟩, trivial⟩
  · refine rj_val (wn0 rfl) rfl rfl ((y_index_slc (sz := 4) (n := (g.2.1 ++ [Nd.mk 2 0 [] f.2.1]).length) Try.underlying24 Try.sizeOf26 rfl rfl (by ((repeat (first | exact Find.head _ | apply Find.tail)); done)) (by simp; omega))) ?_
    refine rj_tj ?_
    refine tj_all (rs := [9, 10]) (by kernel_rfl) (by decide) ⟨⟨_, rfl, ?_⟩, ⟨_, rfl, ?_⟩, trivial⟩
    · refine rj_stores_slc (sz := 4) (n := (g.2.1 ++ [Nd.mk 2 0 [] f.2.1]).length) (j := g.2.1.length * 4) ⟨Try.isAgg26, Try.sizeOf26⟩ rfl (wn0 rfl) rfl rfl (four_one hfo) (by ((repeat (first | exact Find.head _ | apply Find.tail)); done)) (by rw [List.length_append, hg.flat]; exact Nat.le_refl _) (flat_set hg f.1 rfl rfl) (by simp) ?_
      refine rj_tj ?_
      refine tj_all (rs := [10]) (by kernel_rfl) (by decide) ⟨⟨_, rfl, ?_⟩, trivial⟩
      refine rj_val (wn0 rfl) rfl rfl ((y_nilCheck_slc (sz := 4) (n := rest.length + 1) rfl (by ((repeat (first | exact Find.head _ | apply Find.tail)); done)) (by omega))) ?_
      refine rj_tj ?_
      refine tj_all (rs := [11]) (by kernel_rfl) (by decide) ⟨⟨_, rfl, ?_⟩, trivial⟩
      refine rj_val (wn0 rfl) rfl rfl ((y_fieldAddr_slc (k := 3) Try.underlying26 rfl (m := 1) (by decide) Try.sizeOf24 rfl (by ((repeat (first | exact Find.head _ | apply Find.tail)); done)) (by omega))) ?_
      refine rj_tj ?_
      refine tj_all (rs := [12]) (by kernel_rfl) (by decide) ⟨⟨_, rfl, ?_⟩, trivial⟩
      refine rj_store_slc (sz := 4) (n := rest.length + 1) (j := rest.length * 4 + 3) ⟨Try.isAgg24, Try.sizeOf24⟩ (wn0 rfl) rfl rfl (by (first | rfl | assumption | (apply cutV_one; assumption))) (by ((repeat (first | exact Find.head _ | apply Find.tail)); done)) (by rw [hdrs_len]; simp; omega) (hdrs_set g rest _ (g.2.1 ++ [Nd.mk 2 0 [] f.2.1]) (g.2.2 ++ [[.int .i64 2, .int .u64 0, .string (str []), f.1]])) (by omega) ?_
      refine rj_tj ?_
      refine tj_done (by kernel_rfl) ?_
      refine hend _ _ _ ?_
      apply ej_end Try.results29 .nil _ [blk b [v2] 24, slc 26 4 v2 (rest.length + 1) (hdrs ((v26, g.2.1 ++ [Nd.mk 2 0 [] f.2.1], g.2.2 ++ [[.int .i64 2, .int .u64 0, .string (str []), f.1]]) :: rest)), frA (v26, g.2.1 ++ [Nd.mk 2 0 [] f.2.1], g.2.2 ++ [[.int .i64 2, .int .u64 0, .string (str []), f.1]])] (by (first | exact Hp.le_refl _ | assumption | exact Hp.le_trans ‹_› ‹_›)) rfl
      case hp => exact ⟨v2, (v26, g.2.1 ++ [Nd.mk 2 0 [] f.2.1], g.2.2 ++ [[.int .i64 2, .int .u64 0, .string (str []), f.1]]), rfl, (hg.mono hR2).snoc (by rw [hq]; exact hrl.node (by simp [big])), rfl⟩
      case hS => (repeat (first | exact Sub.refl _ | (apply Sub.pick; focus (repeat (first | exact Find.head _ | apply Find.tail))) | apply Sub.drop))
    · refine rj_val (wn0 rfl) rfl rfl ((y_nilCheck_slc (sz := 4) (n := rest.length + 1) rfl (by ((repeat (first | exact Find.head _ | apply Find.tail)); done)) (by omega))) ?_
      refine rj_tj ?_
      refine tj_all (rs := [9, 11]) (by kernel_rfl) (by decide) ⟨⟨_, rfl, ?_⟩, ⟨_, rfl, ?_⟩, trivial⟩
      · refine rj_stores_slc (sz := 4) (n := (g.2.1 ++ [Nd.mk 2 0 [] f.2.1]).length) (j := g.2.1.length * 4) ⟨Try.isAgg26, Try.sizeOf26⟩ rfl (wn0 rfl) rfl rfl (four_one hfo) (by ((repeat (first | exact Find.head _ | apply Find.tail)); done)) (by rw [List.length_append, hg.flat]; exact Nat.le_refl _) (flat_set hg f.1 rfl rfl) (by simp) ?_
        refine rj_tj ?_
        refine tj_all (rs := [11]) (by kernel_rfl) (by decide) ⟨⟨_, rfl, ?_⟩, trivial⟩
        refine rj_val (wn0 rfl) rfl rfl ((y_fieldAddr_slc (k := 3) Try.underlying26 rfl (m := 1) (by decide) Try.sizeOf24 rfl (by ((repeat (first | exact Find.head _ | apply Find.tail)); done)) (by omega))) ?_
        refine rj_tj ?_
        refine tj_all (rs := [12]) (by kernel_rfl) (by decide) ⟨⟨_, rfl, ?_⟩, trivial⟩
        refine rj_store_slc (sz := 4) (n := rest.length + 1) (j := rest.length * 4 + 3) ⟨Try.isAgg24, Try.sizeOf24⟩ (wn0 rfl) rfl rfl (by (first | rfl | assumption | (apply cutV_one; assumption))) (by ((repeat (first | exact Find.head _ | apply Find.tail)); done)) (by rw [hdrs_len]; simp; omega) (hdrs_set g rest _ (g.2.1 ++ [Nd.mk 2 0 [] f.2.1]) (g.2.2 ++ [[.int .i64 2, .int .u64 0, .string (str []), f.1]])) (by omega) ?_
        refine rj_tj ?_
        refine tj_done (by kernel_rfl) ?_
        refine hend _ _ _ ?_
        apply ej_end Try.results29 .nil _ [blk b [v2] 24, slc 26 4 v2 (rest.length + 1) (hdrs ((v26, g.2.1 ++ [Nd.mk 2 0 [] f.2.1], g.2.2 ++ [[.int .i64 2, .int .u64 0, .string (str []), f.1]]) :: rest)), frA (v26, g.2.1 ++ [Nd.mk 2 0 [] f.2.1], g.2.2 ++ [[.int .i64 2, .int .u64 0, .string (str []), f.1]])] (by (first | exact Hp.le_refl _ | assumption | exact Hp.le_trans ‹_› ‹_›)) rfl
        case hp => exact ⟨v2, (v26, g.2.1 ++ [Nd.mk 2 0 [] f.2.1], g.2.2 ++ [[.int .i64 2, .int .u64 0, .string (str []), f.1]]), rfl, (hg.mono hR2).snoc (by rw [hq]; exact hrl.node (by simp [big])), rfl⟩
        case hS => (repeat (first | exact Sub.refl _ | (apply Sub.pick; focus (repeat (first | exact Find.head _ | apply Find.tail))) | apply Sub.drop))
      · refine rj_val (wn0 rfl) rfl rfl ((y_fieldAddr_slc (k := 3) Try.underlying26 rfl (m := 1) (by decide) Try.sizeOf24 rfl (by ((repeat (first | exact Find.head _ | apply Find.tail)); done)) (by omega))) ?_
        refine rj_tj ?_
        refine tj_all (rs := [9, 12]) (by kernel_rfl) (by decide) ⟨⟨_, rfl, ?_⟩, ⟨_, rfl, ?_⟩, trivial⟩
        · refine rj_stores_slc (sz := 4) (n := (g.2.1 ++ [Nd.mk 2 0 [] f.2.1]).length) (j := g.2.1.length * 4) ⟨Try.isAgg26, Try.sizeOf26⟩ rfl (wn0 rfl) rfl rfl (four_one hfo) (by ((repeat (first | exact Find.head _ | apply Find.tail)); done)) (by rw [List.length_append, hg.flat]; exact Nat.le_refl _) (flat_set hg f.1 rfl rfl) (by simp) ?_
          refine rj_tj ?_
          refine tj_all (rs := [12]) (by kernel_rfl) (by decide) ⟨⟨_, rfl, ?_⟩, trivial⟩
          refine rj_store_slc (sz := 4) (n := rest.length + 1) (j := rest.length * 4 + 3) ⟨Try.isAgg24, Try.sizeOf24⟩ (wn0 rfl) rfl rfl (by (first | rfl | assumption | (apply cutV_one; assumption))) (by ((repeat (first | exact Find.head _ | apply Find.tail)); done)) (by rw [hdrs_len]; simp; omega) (hdrs_set g rest _ (g.2.1 ++ [Nd.mk 2 0 [] f.2.1]) (g.2.2 ++ [[.int .i64 2, .int .u64 0, .string (str []), f.1]])) (by omega) ?_
          refine rj_tj ?_
          refine tj_done (by kernel_rfl) ?_
          refine hend _ _ _ ?_
          apply ej_end Try.results29 .nil _ [blk b [v2] 24, slc 26 4 v2 (rest.length + 1) (hdrs ((v26, g.2.1 ++ [Nd.mk 2 0 [] f.2.1], g.2.2 ++ [[.int .i64 2, .int .u64 0, .string (str []), f.1]]) :: rest)), frA (v26, g.2.1 ++ [Nd.mk 2 0 [] f.2.1], g.2.2 ++ [[.int .i64 2, .int .u64 0, .string (str []), f.1]])] (by (first | exact Hp.le_refl _ | assumption | exact Hp.le_trans ‹_› ‹_›)) rfl
          case hp => exact ⟨v2, (v26, g.2.1 ++ [Nd.mk 2 0 [] f.2.1], g.2.2 ++ [[.int .i64 2, .int .u64 0, .string (str []), f.1]]), rfl, (hg.mono hR2).snoc (by rw [hq]; exact hrl.node (by simp [big])), rfl⟩
          case hS => (repeat (first | exact Sub.refl _ | (apply Sub.pick; focus (repeat (first | exact Find.head _ | apply Find.tail))) | apply Sub.drop))
        · refine rj_store_slc (sz := 4) (n := rest.length + 1) (j := rest.length * 4 + 3) ⟨Try.isAgg24, Try.sizeOf24⟩ (wn0 rfl) rfl rfl (by (first | rfl | assumption | (apply cutV_one; assumption))) (by ((repeat (first | exact Find.head _ | apply Find.tail)); done)) (by rw [hdrs_len]; simp; omega) (hdrs_set g rest _ (g.2.1 ++ [Nd.mk 2 0 [] f.2.1]) (g.2.2 ++ [[.int .i64 2, .int .u64 0, .string (str []), f.1]])) (by omega) ?_
          refine rj_tj ?_
          refine tj_all (rs := [9]) (by kernel_rfl) (by decide) ⟨⟨_, rfl, ?_⟩, trivial⟩
          refine rj_stores_slc (sz := 4) (n := (g.2.1 ++ [Nd.mk 2 0 [] f.2.1]).length) (j := g.2.1.length * 4) ⟨Try.isAgg26, Try.sizeOf26⟩ rfl (wn0 rfl) rfl rfl (four_one hfo) (by ((repeat (first | exact Find.head _ | apply Find.tail)); done)) (by rw [List.length_append, hg.flat]; exact Nat.le_refl _) (flat_set hg f.1 rfl rfl) (by simp) ?_
          refine rj_tj ?_
          refine tj_done (by kernel_rfl) ?_
          refine hend _ _ _ ?_
          apply ej_end Try.results29 .nil _ [blk b [v2] 24, slc 26 4 v2 (rest.length + 1) (hdrs ((v26, g.2.1 ++ [Nd.mk 2 0 [] f.2.1], g.2.2 ++ [[.int .i64 2, .int .u64 0, .string (str []), f.1]]) :: rest)), frA (v26, g.2.1 ++ [Nd.mk 2 0 [] f.2.1], g.2.2 ++ [[.int .i64 2, .int .u64 0, .string (str []), f.1]])] (by (first | exact Hp.le_refl _ | assumption | exact Hp.le_trans ‹_› ‹_›)) rfl
          case hp => exact ⟨v2, (v26, g.2.1 ++ [Nd.mk 2 0 [] f.2.1], g.2.2 ++ [[.int .i64 2, .int .u64 0, .string (str []), f.1]]), rfl, (hg.mono hR2).snoc (by rw [hq]; exact hrl.node (by simp [big])), rfl⟩
          case hS => (repeat (first | exact Sub.refl _ | (apply Sub.pick; focus (repeat (first | exact Find.head _ | apply Find.tail))) | apply Sub.drop))
  · refine rj_val (wn0 rfl) rfl rfl ((y_nilCheck_slc (sz := 4) (n := rest.length + 1) rfl (by ((repeat (first | exact Find.head _ | apply Find.tail)); done)) (by omega))) ?_
    refine rj_tj ?_
    refine tj_all (rs := [8, 11]) (by kernel_rfl) (by decide) ⟨⟨_, rfl, ?_⟩, ⟨_, rfl, ?_⟩, trivial⟩
    · refine rj_val (wn0 rfl) rfl rfl ((y_index_slc (sz := 4) (n := (g.2.1 ++ [Nd.mk 2 0 [] f.2.1]).length) Try.underlying24 Try.sizeOf26 rfl rfl (by ((repeat (first | exact Find.head _ | apply Find.tail)); done)) (by simp; omega))) ?_
      refine rj_tj ?_
      refine tj_all (rs := [9, 11]) (by kernel_rfl) (by decide) ⟨⟨_, rfl, ?_⟩, ⟨_, rfl, ?_⟩, trivial⟩
      · refine rj_stores_slc (sz := 4) (n := (g.2.1 ++ [Nd.mk 2 0 [] f.2.1]).length) (j := g.2.1.length * 4) ⟨Try.isAgg26, Try.sizeOf26⟩ rfl (wn0 rfl) rfl rfl (four_one hfo) (by ((repeat (first | exact Find.head _ | apply Find.tail)); done)) (by rw [List.length_append, hg.flat]; exact Nat.le_refl _) (flat_set hg f.1 rfl rfl) (by simp) ?_
        refine rj_tj ?_
        refine tj_all (rs := [11]) (by kernel_rfl) (by decide) ⟨⟨_, rfl, ?_⟩, trivial⟩
        refine rj_val (wn0 rfl) rfl rfl ((y_fieldAddr_slc (k := 3) Try.underlying26 rfl (m := 1) (by decide) Try.sizeOf24 rfl (by ((repeat (first | exact Find.head _ | apply Find.tail)); done)) (by omega))) ?_
        refine rj_tj ?_
        refine tj_all (rs := [12]) (by kernel_rfl) (by decide) ⟨⟨_, rfl, ?_⟩, trivial⟩
        refine rj_store_slc (sz := 4) (n := rest.length + 1) (j := rest.length * 4 + 3) ⟨Try.isAgg24, Try.sizeOf24⟩ (wn0 rfl) rfl rfl (by (first | rfl | assumption | (apply cutV_one; assumption))) (by ((repeat (first | exact Find.head _ | apply Find.tail)); done)) (by rw [hdrs_len]; simp; omega) (hdrs_set g rest _ (g.2.1 ++ [Nd.mk 2 0 [] f.2.1]) (g.2.2 ++ [[.int .i64 2, .int .u64 0, .string (str []), f.1]])) (by omega) ?_
        refine rj_tj ?_
        refine tj_done (by kernel_rfl) ?_
        refine hend _ _ _ ?_
        apply ej_end Try.results29 .nil _ [blk b [v2] 24, slc 26 4 v2 (rest.length + 1) (hdrs ((v26, g.2.1 ++ [Nd.mk 2 0 [] f.2.1], g.2.2 ++ [[.int .i64 2, .int .u64 0, .string (str []), f.1]]) :: rest)), frA (v26, g.2.1 ++ [Nd.mk 2 0 [] f.2.1], g.2.2 ++ [[.int .i64 2, .int .u64 0, .string (str []), f.1]])] (by (first | exact Hp.le_refl _ | assumption | exact Hp.le_trans ‹_› ‹_›)) rfl
        case hp => exact ⟨v2, (v26, g.2.1 ++ [Nd.mk 2 0 [] f.2.1], g.2.2 ++ [[.int .i64 2, .int .u64 0, .string (str []), f.1]]), rfl, (hg.mono hR2).snoc (by rw [hq]; exact hrl.node (by simp [big])), rfl⟩
        case hS => (repeat (first | exact Sub.refl _ | (apply Sub.pick; focus (repeat (first | exact Find.head _ | apply Find.tail))) | apply Sub.drop))
      · refine rj_val (wn0 rfl) rfl rfl ((y_fieldAddr_slc (k := 3) Try.underlying26 rfl (m := 1) (by decide) Try.sizeOf24 rfl (by ((repeat (first | exact Find.head _ | apply Find.tail)); done)) (by omega))) ?_
        refine rj_tj ?_
        refine tj_all (rs := [9, 12]) (by kernel_rfl) (by decide) ⟨⟨_, rfl, ?_⟩, ⟨_, rfl, ?_⟩, trivial⟩
        · refine rj_stores_slc (sz := 4) (n := (g.2.1 ++ [Nd.mk 2 0 [] f.2.1]).length) (j := g.2.1.length * 4) ⟨Try.isAgg26, Try.sizeOf26⟩ rfl (wn0 rfl) rfl rfl (four_one hfo) (by ((repeat (first | exact Find.head _ | apply Find.tail)); done)) (by rw [List.length_append, hg.flat]; exact Nat.le_refl _) (flat_set hg f.1 rfl rfl) (by simp) ?_
          refine rj_tj ?_
          refine tj_all (rs := [12]) (by kernel_rfl) (by decide) ⟨⟨_, rfl, ?_⟩, trivial⟩
          refine rj_store_slc (sz := 4) (n := rest.length + 1) (j := rest.length * 4 + 3) ⟨Try.isAgg24, Try.sizeOf24⟩ (wn0 rfl) rfl rfl (by (first | rfl | assumption | (apply cutV_one; assumption))) (by ((repeat (first | exact Find.head _ | apply Find.tail)); done)) (by rw [hdrs_len]; simp; omega) (hdrs_set g rest _ (g.2.1 ++ [Nd.mk 2 0 [] f.2.1]) (g.2.2 ++ [[.int .i64 2, .int .u64 0, .string (str []), f.1]])) (by omega) ?_
          refine rj_tj ?_
          refine tj_done (by kernel_rfl) ?_
          refine hend _ _ _ ?_
          apply ej_end Try.results29 .nil _ [blk b [v2] 24, slc 26 4 v2 (rest.length + 1) (hdrs ((v26, g.2.1 ++ [Nd.mk 2 0 [] f.2.1], g.2.2 ++ [[.int .i64 2, .int .u64 0, .string (str []), f.1]]) :: rest)), frA (v26, g.2.1 ++ [Nd.mk 2 0 [] f.2.1], g.2.2 ++ [[.int .i64 2, .int .u64 0, .string (str []), f.1]])] (by (first | exact Hp.le_refl _ | assumption | exact Hp.le_trans ‹_› ‹_›)) rfl
          case hp => exact ⟨v2, (v26, g.2.1 ++ [Nd.mk 2 0 [] f.2.1], g.2.2 ++ [[.int .i64 2, .int .u64 0, .string (str []), f.1]]), rfl, (hg.mono hR2).snoc (by rw [hq]; exact hrl.node (by simp [big])), rfl⟩
          case hS => (repeat (first | exact Sub.refl _ | (apply Sub.pick; focus (repeat (first | exact Find.head _ | apply Find.tail))) | apply Sub.drop))
        · refine rj_store_slc (sz := 4) (n := rest.length + 1) (j := rest.length * 4 + 3) ⟨Try.isAgg24, Try.sizeOf24⟩ (wn0 rfl) rfl rfl (by (first | rfl | assumption | (apply cutV_one; assumption))) (by ((repeat (first | exact Find.head _ | apply Find.tail)); done)) (by rw [hdrs_len]; simp; omega) (hdrs_set g rest _ (g.2.1 ++ [Nd.mk 2 0 [] f.2.1]) (g.2.2 ++ [[.int .i64 2, .int .u64 0, .string (str []), f.1]])) (by omega) ?_
          refine rj_tj ?_
          refine tj_all (rs := [9]) (by kernel_rfl) (by decide) ⟨⟨_, rfl, ?_⟩, trivial⟩
          refine rj_stores_slc (sz := 4) (n := (g.2.1 ++ [Nd.mk 2 0 [] f.2.1]).length) (j := g.2.1.length * 4) ⟨Try.isAgg26, Try.sizeOf26⟩ rfl (wn0 rfl) rfl rfl (four_one hfo) (by ((repeat (first | exact Find.head _ | apply Find.tail)); done)) (by rw [List.length_append, hg.flat]; exact Nat.le_refl _) (flat_set hg f.1 rfl rfl) (by simp) ?_
          refine rj_tj ?_
          refine tj_done (by kernel_rfl) ?_
          refine hend _ _ _ ?_
          apply ej_end Try.results29 .nil _ [blk b [v2] 24, slc 26 4 v2 (rest.length + 1) (hdrs ((v26, g.2.1 ++ [Nd.mk 2 0 [] f.2.1], g.2.2 ++ [[.int .i64 2, .int .u64 0, .string (str []), f.1]]) :: rest)), frA (v26, g.2.1 ++ [Nd.mk 2 0 [] f.2.1], g.2.2 ++ [[.int .i64 2, .int .u64 0, .string (str []), f.1]])] (by (first | exact Hp.le_refl _ | assumption | exact Hp.le_trans ‹_› ‹_›)) rfl
          case hp => exact ⟨v2, (v26, g.2.1 ++ [Nd.mk 2 0 [] f.2.1], g.2.2 ++ [[.int .i64 2, .int .u64 0, .string (str []), f.1]]), rfl, (hg.mono hR2).snoc (by rw [hq]; exact hrl.node (by simp [big])), rfl⟩
          case hS => (repeat (first | exact Sub.refl _ | (apply Sub.pick; focus (repeat (first | exact Find.head _ | apply Find.tail))) | apply Sub.drop))
    · refine rj_val (wn0 rfl) rfl rfl ((y_fieldAddr_slc (k := 3) Try.underlying26 rfl (m := 1) (by decide) Try.sizeOf24 rfl (by ((repeat (first | exact Find.head _ | apply Find.tail)); done)) (by omega))) ?_
      refine rj_tj ?_
      refine tj_all (rs := [8, 12]) (by kernel_rfl) (by decide) ⟨⟨_, rfl, ?_⟩, ⟨_, rfl, ?_⟩, trivial⟩
      · refine rj_val (wn0 rfl) rfl rfl ((y_index_slc (sz := 4) (n := (g.2.1 ++ [Nd.mk 2 0 [] f.2.1]).length) Try.underlying24 Try.sizeOf26 rfl rfl (by ((repeat (first | exact Find.head _ | apply Find.tail)); done)) (by simp; omega))) ?_
        refine rj_tj ?_
        refine tj_all (rs := [9, 12]) (by kernel_rfl) (by decide) ⟨⟨_, rfl, ?_⟩, ⟨_, rfl, ?_⟩, trivial⟩
        · refine rj_stores_slc (sz := 4) (n := (g.2.1 ++ [Nd.mk 2 0 [] f.2.1]).length) (j := g.2.1.length * 4) ⟨Try.isAgg26, Try.sizeOf26⟩ rfl (wn0 rfl) rfl rfl (four_one hfo) (by ((repeat (first | exact Find.head _ | apply Find.tail)); done)) (by rw [List.length_append, hg.flat]; exact Nat.le_refl _) (flat_set hg f.1 rfl rfl) (by simp) ?_
          refine rj_tj ?_
          refine tj_all (rs := [12]) (by kernel_rfl) (by decide) ⟨⟨_, rfl, ?_⟩, trivial⟩
          refine rj_store_slc (sz := 4) (n := rest.length + 1) (j := rest.length * 4 + 3) ⟨Try.isAgg24, Try.sizeOf24⟩ (wn0 rfl) rfl rfl (by (first | rfl | assumption | (apply cutV_one; assumption))) (by ((repeat (first | exact Find.head _ | apply Find.tail)); done)) (by rw [hdrs_len]; simp; omega) (hdrs_set g rest _ (g.2.1 ++ [Nd.mk 2 0 [] f.2.1]) (g.2.2 ++ [[.int .i64 2, .int .u64 0, .string (str []), f.1]])) (by omega) ?_
          refine rj_tj ?_
          refine tj_done (by kernel_rfl) ?_
          refine hend _ _ _ ?_
          apply ej_end Try.results29 .nil _ [blk b [v2] 24, slc 26 4 v2 (rest.length + 1) (hdrs ((v26, g.2.1 ++ [Nd.mk 2 0 [] f.2.1], g.2.2 ++ [[.int .i64 2, .int .u64 0, .string (str []), f.1]]) :: rest)), frA (v26, g.2.1 ++ [Nd.mk 2 0 [] f.2.1], g.2.2 ++ [[.int .i64 2, .int .u64 0, .string (str []), f.1]])] (by (first | exact Hp.le_refl _ | assumption | exact Hp.le_trans ‹_› ‹_›)) rfl
          case hp => exact ⟨v2, (v26, g.2.1 ++ [Nd.mk 2 0 [] f.2.1], g.2.2 ++ [[.int .i64 2, .int .u64 0, .string (str []), f.1]]), rfl, (hg.mono hR2).snoc (by rw [hq]; exact hrl.node (by simp [big])), rfl⟩
          case hS => (repeat (first | exact Sub.refl _ | (apply Sub.pick; focus (repeat (first | exact Find.head _ | apply Find.tail))) | apply Sub.drop))
        · refine rj_store_slc (sz := 4) (n := rest.length + 1) (j := rest.length * 4 + 3) ⟨Try.isAgg24, Try.sizeOf24⟩ (wn0 rfl) rfl rfl (by (first | rfl | assumption | (apply cutV_one; assumption))) (by ((repeat (first | exact Find.head _ | apply Find.tail)); done)) (by rw [hdrs_len]; simp; omega) (hdrs_set g rest _ (g.2.1 ++ [Nd.mk 2 0 [] f.2.1]) (g.2.2 ++ [[.int .i64 2, .int .u64 0, .string (str []), f.1]])) (by omega) ?_
          refine rj_tj ?_
          refine tj_all (rs := [9]) (by kernel_rfl) (by decide) ⟨⟨_, rfl, ?_⟩, trivial⟩
          refine rj_stores_slc (sz := 4) (n := (g.2.1 ++ [Nd.mk 2 0 [] f.2.1]).length) (j := g.2.1.length * 4) ⟨Try.isAgg26, Try.sizeOf26⟩ rfl (wn0 rfl) rfl rfl (four_one hfo) (by ((repeat (first | exact Find.head _ | apply Find.tail)); done)) (by rw [List.length_append, hg.flat]; exact Nat.le_refl _) (flat_set hg f.1 rfl rfl) (by simp) ?_
          refine rj_tj ?_
          refine tj_done (by kernel_rfl) ?_
          refine hend _ _ _ ?_
          apply ej_end Try.results29 .nil _ [blk b [v2] 24, slc 26 4 v2 (rest.length + 1) (hdrs ((v26, g.2.1 ++ [Nd.mk 2 0 [] f.2.1], g.2.2 ++ [[.int .i64 2, .int .u64 0, .string (str []), f.1]]) :: rest)), frA (v26, g.2.1 ++ [Nd.mk 2 0 [] f.2.1], g.2.2 ++ [[.int .i64 2, .int .u64 0, .string (str []), f.1]])] (by (first | exact Hp.le_refl _ | assumption | exact Hp.le_trans ‹_› ‹_›)) rfl
          case hp => exact ⟨v2, (v26, g.2.1 ++ [Nd.mk 2 0 [] f.2.1], g.2.2 ++ [[.int .i64 2, .int .u64 0, .string (str []), f.1]]), rfl, (hg.mono hR2).snoc (by rw [hq]; exact hrl.node (by simp [big])), rfl⟩
          case hS => (repeat (first | exact Sub.refl _ | (apply Sub.pick; focus (repeat (first | exact Find.head _ | apply Find.tail))) | apply Sub.drop))
      · refine rj_store_slc (sz := 4) (n := rest.length + 1) (j := rest.length * 4 + 3) ⟨Try.isAgg24, Try.sizeOf24⟩ (wn0 rfl) rfl rfl (by (first | rfl | assumption | (apply cutV_one; assumption))) (by ((repeat (first | exact Find.head _ | apply Find.tail)); done)) (by rw [hdrs_len]; simp; omega) (hdrs_set g rest _ (g.2.1 ++ [Nd.mk 2 0 [] f.2.1]) (g.2.2 ++ [[.int .i64 2, .int .u64 0, .string (str []), f.1]])) (by omega) ?_
        refine rj_tj ?_
        refine tj_all (rs := [8]) (by kernel_rfl) (by decide) ⟨⟨_, rfl, ?_⟩, trivial⟩
        refine rj_val (wn0 rfl) rfl rfl ((y_index_slc (sz := 4) (n := (g.2.1 ++ [Nd.mk 2 0 [] f.2.1]).length) Try.underlying24 Try.sizeOf26 rfl rfl (by ((repeat (first | exact Find.head _ | apply Find.tail)); done)) (by simp; omega))) ?_
        refine rj_tj ?_
        refine tj_all (rs := [9]) (by kernel_rfl) (by decide) ⟨⟨_, rfl, ?_⟩, trivial⟩
        refine rj_stores_slc (sz := 4) (n := (g.2.1 ++ [Nd.mk 2 0 [] f.2.1]).length) (j := g.2.1.length * 4) ⟨Try.isAgg26, Try.sizeOf26⟩ rfl (wn0 rfl) rfl rfl (four_one hfo) (by ((repeat (first | exact Find.head _ | apply Find.tail)); done)) (by rw [List.length_append, hg.flat]; exact Nat.le_refl _) (flat_set hg f.1 rfl rfl) (by simp) ?_
        refine rj_tj ?_
        refine tj_done (by kernel_rfl) ?_
        refine hend _ _ _ ?_
        apply ej_end Try.results29 .nil _ [blk b [v2] 24, slc 26 4 v2 (rest.length + 1) (hdrs ((v26, g.2.1 ++ [Nd.mk 2 0 [] f.2.1], g.2.2 ++ [[.int .i64 2, .int .u64 0, .string (str []), f.1]]) :: rest)), frA (v26, g.2.1 ++ [Nd.mk 2 0 [] f.2.1], g.2.2 ++ [[.int .i64 2, .int .u64 0, .string (str []), f.1]])] (by (first | exact Hp.le_refl _ | assumption | exact Hp.le_trans ‹_› ‹_›)) rfl
        case hp => exact ⟨v2, (v26, g.2.1 ++ [Nd.mk 2 0 [] f.2.1], g.2.2 ++ [[.int .i64 2, .int .u64 0, .string (str []), f.1]]), rfl, (hg.mono hR2).snoc (by rw [hq]; exact hrl.node (by simp [big])), rfl⟩
        case hS => (repeat (first | exact Sub.refl _ | (apply Sub.pick; focus (repeat (first | exact Find.head _ | apply Find.tail))) | apply Sub.drop))
end V
end Go.Proofs.Ytcficaboohpmdaa
