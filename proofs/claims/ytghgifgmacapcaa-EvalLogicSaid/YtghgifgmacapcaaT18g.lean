/- Pile: the expression of steps, walked. -/
import Derived.Test.YtghgifgmacapcaaT18f
set_option linter.unusedSimpArgs false
set_option linter.unusedVariables false
set_option maxRecDepth 100000
namespace Go.Proofs.Ytghgifgmacapcaa
open Go.RowKit
namespace V
set_option maxHeartbeats 4000000
structure St where
  what : Int
  n : Int
  s : Bs
def stC (x : St) : List Value := [.int .i64 x.what, .int .i64 x.n, .string (str x.s)]
def stE : Elt St where
  P := fun _ x cs => cs = stC x
  sz := 3
  mono := fun _ h => h
  len := fun h => by subst h; rfl
  one := fun h u hu => by subst h; simp [stC] at hu; rcases hu with rfl | rfl | rfl <;> rfl
def b64 (n : Int) : Prop := -9223372036854775808 ≤ n ∧ n ≤ 9223372036854775807
theorem b64_of {n : Int} (h : IntKind.i64.min ≤ n ∧ n ≤ IntKind.i64.max) : b64 n := by simpa [b64, IntKind.min, IntKind.max, IntKind.signed, IntKind.bits] using h
theorem flat_snoc (css : List (List Value)) (cy : List Value) : css.flatten ++ cy = (css ++ [cy]).flatten := by simp
theorem ones_nth {w : Int} (h : 5 ≤ w ∧ w ≤ 10) : ∃ op : Op, arity op = 1 ∧ nth ([[110, 111, 116], [110, 101, 103], [105, 115, 110, 117, 108, 108], [115, 117, 109], [109, 105, 110], [109, 97, 120]].map fun s => Value.string (str s)) ((w - 5).toNat * 1) = some (.string (str op.str)) := by
  have : w = 5 ∨ w = 6 ∨ w = 7 ∨ w = 8 ∨ w = 9 ∨ w = 10 := by omega
  rcases this with rfl | rfl | rfl | rfl | rfl | rfl
  · exact ⟨.not, rfl, rfl⟩
  · exact ⟨.neg, rfl, rfl⟩
  · exact ⟨.isnull, rfl, rfl⟩
  · exact ⟨.sum, rfl, rfl⟩
  · exact ⟨.min, rfl, rfl⟩
  · exact ⟨.max, rfl, rfl⟩
theorem twos_nth {w : Int} (h : 11 ≤ w ∧ w < 25) : ∃ op : Op, arity op = 2 ∧ nth ([[111, 114], [97, 110, 100], [61], [60, 62], [60], [60, 61], [62], [62, 61], [43], [45], [124, 124], [42], [47], [37]].map fun s => Value.string (str s)) ((w - 11).toNat * 1) = some (.string (str op.str)) := by
  have : w = 11 ∨ w = 12 ∨ w = 13 ∨ w = 14 ∨ w = 15 ∨ w = 16 ∨ w = 17 ∨ w = 18 ∨ w = 19 ∨ w = 20 ∨ w = 21 ∨ w = 22 ∨ w = 23 ∨ w = 24 := by omega
  rcases this with rfl | rfl | rfl | rfl | rfl | rfl | rfl | rfl | rfl | rfl | rfl | rfl | rfl | rfl
  · exact ⟨.or, rfl, rfl⟩
  · exact ⟨.and, rfl, rfl⟩
  · exact ⟨.eq, rfl, rfl⟩
  · exact ⟨.ne, rfl, rfl⟩
  · exact ⟨.lt, rfl, rfl⟩
  · exact ⟨.le, rfl, rfl⟩
  · exact ⟨.gt, rfl, rfl⟩
  · exact ⟨.ge, rfl, rfl⟩
  · exact ⟨.add, rfl, rfl⟩
  · exact ⟨.sub, rfl, rfl⟩
  · exact ⟨.cat, rfl, rfl⟩
  · exact ⟨.mul, rfl, rfl⟩
  · exact ⟨.div, rfl, rfl⟩
  · exact ⟨.rem, rfl, rfl⟩
/-- the pile: how it stands, and that each on it is right -/
structure PI (R : Hp) (n : Nat) (p : List Ex) (css : List (List Value)) : Prop where
  els : Els exE R p css
  len : p.length ≤ n
  wf : ∀ y ∈ p, WfX y
theorem PI.mono {R R' : Hp} {n m : Nat} {p : List Ex} {css : List (List Value)} (h : PI R n p css) (hR : R.le R') (hn : n ≤ m) : PI R' m p css := ⟨h.els.mono hR, by have := h.len; omega, h.wf⟩
theorem PI.leaf {R : Hp} {n : Nat} {p : List Ex} {css : List (List Value)} (h : PI R n p css) (op : Op) (v : Vl) (name : Bs) (h0 : arity op = 0) (hv : isV v = true) (hb : b64 v.n) : PI R (n + 1) (p ++ [.mk op v name []]) (css ++ [exC op.str v name (.slice none 0 0)]) :=
  ⟨h.els.snoc (RepX.of FrX.nil), by have := h.len; simp; omega, fun y hy => by
    rcases List.mem_append.1 hy with hy | hy
    · exact h.wf y hy
    · simp at hy; subst hy; exact .mk (by simp [h0]) hv hb (fun _ h => by simp at h)⟩
theorem PI.over {R R' : Hp} {n : Nat} {p : List Ex} {css : List (List Value)} (h : PI R n p css) (hR : R.le R') (op : Op) (k : Nat) (kids : List Ex) (vk : Value) (ha : kids.length = arity op) (hm : ∀ y ∈ kids, y ∈ p) (hf : FrX exE R' kids vk) (hk : 0 < k) (hkp : k ≤ p.length) :
    PI R' (n + 1) (p.take (p.length - k) ++ [.mk op Vl.zero [] kids]) (css.take (p.length - k) ++ [exC op.str Vl.zero [] vk]) :=
  ⟨((h.els.mono hR).take _).snoc (RepX.of hf), by have := h.len; simp; omega, fun y hy => by
    rcases List.mem_append.1 hy with hy | hy
    · exact h.wf y (List.mem_of_mem_take hy)
    · simp at hy; subst hy; exact .mk ha rfl (by simp [Vl.zero]) (fun y hy => h.wf y (hm y hy))⟩
theorem top_set {R : Hp} {p : List Ex} {css : List (List Value)} {cs : List Value} (h : Els exE R p css) (h0 : 0 < p.length) (hc : cs.length = 6) : css.flatten.take (((p.length : Int) - 1).toNat * 6) ++ cs ++ css.flatten.drop (((p.length : Int) - 1).toNat * 6 + cs.length) = (css.take (p.length - 1) ++ [cs]).flatten := by
  rw [show ((p.length : Int) - 1).toNat = p.length - 1 by omega, hc, ftake (n := 6) _ h.len, List.drop_of_length_le (by rw [h.flat]; show p.length * 6 ≤ _; omega)]
  simp
theorem pile_at {R : Hp} {p : List Ex} {css : List (List Value)} (h : Els exE R p css) {k : Nat} (h0 : 0 < k) (hk : k ≤ p.length) : ∃ x cs, x ∈ p ∧ RepX R x cs ∧ p[p.length - k]? = some x ∧ (css.flatten.drop (((p.length : Int) - k).toNat * 6)).take 6 = cs := by
  have hx : p[p.length - k]? = some (p[p.length - k]'(by omega)) := by simp
  obtain ⟨cs, h1, h2, h3⟩ := h.get hx
  exact ⟨_, cs, List.mem_of_getElem? hx, h2, hx, by rw [show ((p.length : Int) - k).toNat = p.length - k by omega]; exact h3⟩
theorem zero_one : ∀ u ∈ ([.string (str []), .int .i64 0, .int .i64 0, .string (str []), .string (str []), .slice none 0 0] : List Value), u.oneCell' = true := by
  intro u hu
  simp only [List.mem_cons, List.not_mem_nil, or_false] at hu
  rcases hu with rfl | rfl | rfl | rfl | rfl | rfl <;> rfl
theorem pile_t {R : Hp} (l : List St) (v0 : Value) (hl : FrX stE R l v0) (hb : ∀ x ∈ l, b64 x.n) :
    Tri Try.prog 11 [v0] R [] (fun u R' L' => L' = [] ∧ ∃ cs ok, u = tupOf [.agg ⟨cs⟩, .bool ok] ∧ cs.length = 6 ∧ (∀ c ∈ cs, c.oneCell' = true) ∧ (ok = true → ∃ x, WfX x ∧ RepX R' x cs)) := by
  obtain ⟨q, cap, rfl, hcap, hcm⟩ := hl.shape
  have hlb : l.length ≤ maxLen := Nat.le_trans hcap hcm
  unfold maxLen at hlb
  refine tri_of Try.func11 rfl Try.ntmps11 rfl (fun σ F Q hret hend hpan => ?_)
  try simp only [List.cons_append, List.nil_append]
  refine cj_env (eL 0 rfl eN) ?_
  refine cj_seq (fun K1 hK1 => ?_)
  refine cj_region ?_
  refine rj_alloc (wn0 rfl) rfl Try.zeroValue29 rfl (fun b2 => ?_)
  refine rv0 rfl rfl rfl (y_assign rfl) ?_
  refine rj_nil ?_
  refine hK1 _ _ _ ?_
  refine cj_seq (fun K2 hK2 => ?_)
  refine cj_seq (fun K3 hK3 => ?_)
  refine cj_region ?_
  refine rv0 rfl rfl rfl (y_move rfl) ?_
  first | refine rv0 rfl rfl rfl (y_len_sl Try.underlying22 rfl) ?_ | refine rv0 rfl rfl rfl (y_len_slc Try.underlying22 rfl (by (repeat (first|exact zH _|apply zT));done)) ?_
  refine rv0 rfl rfl rfl (y_gtr rfl rfl) ?_
  refine rj_nil ?_
  refine hK3 _ _ _ ?_
  refine cj_env (eL 0 rfl (eL 2 rfl (eL 12 rfl eN))) ?_
  refine cj_cond rfl (fun hc12 => ?_) (fun hc12 => ?_)
  ·try simp only [dT, dF, nT, nF, tF, fT] at hc12
   refine cj_seq (fun K5 hK5 => ?_)
   refine cj_region ?_
   refine rv0 rfl rfl rfl (y_build (cells := [_, _, _, _, _, _]) [(0, 1), (1, 3), (4, 1), (5, 1)] Try.underlying29 Try.zeroValue29 (fun _ => rfl) rfl rfl) ?_
   refine rj_stores ⟨Try.isAgg29, Try.sizeOf29⟩ rfl (wn0 rfl) rfl rfl (by (first | (simp [Value.oneCell']; done) | (intro u hu; simp only [List.mem_cons, List.not_mem_nil, or_false] at hu; rcases hu with rfl | rfl | rfl | rfl <;> first | rfl | assumption))) (by (repeat (first|exact zH _|apply zT));done) (by (simp)) rfl ?_
   refine rv0 rfl rfl rfl (y_assign rfl) ?_
   refine rj_nil ?_
   refine hK5 _ _ _ ?_
   refine cj_env (eL 2 rfl (eL 3 rfl eN)) ?_
   refine cj_ret ?_
   refine hret _ _ _ ?_
   apply ej_ret Try.results11 (.cons (rv_cells ⟨Try.isAgg29, Try.sizeOf29⟩ rfl (by (repeat (first|exact zH _|apply zT));done) rfl rfl) (.cons (rv_tmp rfl) .nil)) _ [] (by (first | exact Hp.le_refl _ | assumption | exact Hp.le_trans ‹_› ‹_›)) rfl
   case hp => exact ⟨rfl, _, false, rfl, rfl, zero_one, fun h => by cases h⟩
   case hS => (repeat (first|exact zR _|(apply zP;focus (repeat (first|exact zH _|apply zT)))|apply zD|exact zA _ _))
  ·have hl40 : l.length ≤ 40 := by (try simp at hc12); omega
   refine cj_skip ?_
   refine hK2 _ _ _ ?_
   refine cj_seq (fun K6 hK6 => ?_)
   refine cj_region ?_
   refine rj_buildSlice (sz := 1) (wn0 rfl) rfl Try.underlying68 Try.sizeOf9 Try.zeroValue9 rfl rfl rfl (by decide) (by decide) (fun b4 => ?_)
   refine rv0 rfl rfl rfl (y_assign rfl) ?_
   refine rj_nil ?_
   refine hK6 _ _ _ ?_
   refine cj_seq (fun K7 hK7 => ?_)
   refine cj_region ?_
   refine rj_buildSlice (sz := 1) (wn0 rfl) rfl Try.underlying68 Try.sizeOf9 Try.zeroValue9 rfl rfl rfl (by decide) (by decide) (fun b5 => ?_)
   refine rv0 rfl rfl rfl (y_assign rfl) ?_
   refine rj_nil ?_
   refine hK7 _ _ _ ?_
   refine cj_env (eL 0 rfl (eL 2 rfl (eL 4 rfl (eL 5 rfl eN)))) ?_
   refine cj_seq (fun K8 hK8 => ?_)
   refine cj_region ?_
   refine rv0 rfl rfl rfl (y_assign rfl) ?_
   refine rj_add (A := slc 29 6 (.slice none 0 0) 0 []) (slc_nil _ _) ?_
   refine rj_nil ?_
   refine hK8 _ _ _ ?_
   refine cj_seq (fun K9 hK9 => ?_)
   refine cj_seq (fun K10 hK10 => ?_)
   refine cj_region ?_
   refine rv0 rfl rfl rfl (y_move rfl) ?_
   first | refine rv0 rfl rfl rfl (y_len_sl Try.underlying22 rfl) ?_ | refine rv0 rfl rfl rfl (y_len_slc Try.underlying22 rfl (by (repeat (first|exact zH _|apply zT));done)) ?_
   refine rv0 rfl rfl rfl (y_move rfl) ?_
   refine rj_nil ?_
   refine hK10 _ _ _ ?_
   refine cj_block ?_
   refine cj_env (E' := (fun (x : Nat × Value × Hp × List Ex × List (List Value)) => [(2, .pointer (some ⟨b2, 0, none⟩)), (4, .slice (some ⟨b4, 0, none⟩) 14 14), (5, .slice (some ⟨b5, 0, none⟩) 6 6), (6, x.2.1), (16, .slice q l.length cap), (17, .int .i64 (l.length : Int)), (18, .int .i64 (x.1 : Int))]) (0, .slice none 0 0, R, [], [])) (eC rfl (eC rfl (eC rfl (eC rfl (eC rfl (eC rfl (eC rfl eN))))))) ?_
   refine cj_sub (M := (fun (x : Nat × Value × Hp × List Ex × List (List Value)) => slc 29 6 x.2.1 x.2.2.2.1.length x.2.2.2.2.flatten :: slc 9 1 (.slice (some ⟨b5, 0, none⟩) 6 6) 6 ([[110, 111, 116], [110, 101, 103], [105, 115, 110, 117, 108, 108], [115, 117, 109], [109, 105, 110], [109, 97, 120]].map fun s => Value.string (str s)) :: slc 9 1 (.slice (some ⟨b4, 0, none⟩) 14 14) 14 ([[111, 114], [97, 110, 100], [61], [60, 62], [60], [60, 61], [62], [62, 61], [43], [45], [124, 124], [42], [47], [37]].map fun s => Value.string (str s)) :: blk b2 [.string (str []), .int .i64 0, .int .i64 0, .string (str []), .string (str []), .slice none 0 0] 29 :: F) (0, .slice none 0 0, R, [], [])) (by (repeat (first|exact zR _|(apply zP;focus (repeat (first|exact zH _|apply zT)))|apply zD|exact zA _ _))) ?_
   refine cj_loop (fun (x : Nat × Value × Hp × List Ex × List (List Value)) => [(2, .pointer (some ⟨b2, 0, none⟩)), (4, .slice (some ⟨b4, 0, none⟩) 14 14), (5, .slice (some ⟨b5, 0, none⟩) 6 6), (6, x.2.1), (16, .slice q l.length cap), (17, .int .i64 (l.length : Int)), (18, .int .i64 (x.1 : Int))]) (fun (x : Nat × Value × Hp × List Ex × List (List Value)) => x.2.2.1) (fun (x : Nat × Value × Hp × List Ex × List (List Value)) => slc 29 6 x.2.1 x.2.2.2.1.length x.2.2.2.2.flatten :: slc 9 1 (.slice (some ⟨b5, 0, none⟩) 6 6) 6 ([[110, 111, 116], [110, 101, 103], [105, 115, 110, 117, 108, 108], [115, 117, 109], [109, 105, 110], [109, 97, 120]].map fun s => Value.string (str s)) :: slc 9 1 (.slice (some ⟨b4, 0, none⟩) 14 14) 14 ([[111, 114], [97, 110, 100], [61], [60, 62], [60], [60, 61], [62], [62, 61], [43], [45], [124, 124], [42], [47], [37]].map fun s => Value.string (str s)) :: blk b2 [.string (str []), .int .i64 0, .int .i64 0, .string (str []), .string (str []), .slice none 0 0] 29 :: F) (fun (x : Nat × Value × Hp × List Ex × List (List Value)) => x.1 ≤ l.length ∧ R.le x.2.2.1 ∧ x.2.1.oneCell' = true ∧ PI x.2.2.1 x.1 x.2.2.2.1 x.2.2.2.2) (fun (x : Nat × Value × Hp × List Ex × List (List Value)) => l.length - x.1) (0, .slice none 0 0, R, [], []) (⟨by simp, Hp.le_refl R, rfl, Els.nil, by simp, fun _ h => by simp at h⟩) ?_
   rintro ⟨i, vp, R1, p, css⟩ ⟨hi, hR1, hvo, hP⟩
   try dsimp only
   dsimp only at hi hR1 hvo hP
   have hlen := hP.len
   refine cj_seq (fun K11 hK11 => ?_)
   refine cj_region ?_
   refine rv0 rfl rfl rfl (y_lss rfl rfl) ?_
   refine rj_nil ?_
   refine hK11 _ _ _ ?_
   refine cj_seq (fun K12 hK12 => ?_)
   refine cj_cond rfl (fun hc19 => ?_) (fun hc19 => ?_)
   ·try simp only [dT, dF, nT, nF, tF, fT] at hc19
    refine cj_skip ?_
    refine hK12 _ _ _ ?_
    refine cj_seq (fun K14 hK14 => ?_)
    have hJ26 : ∀ (x : Value × Hp × List Ex × List (List Value)), R.le x.2.1 ∧ x.1.oneCell' = true ∧ PI x.2.1 (i + 1) x.2.2.1 x.2.2.2 → EJ ⟨Try.prog, 156, σ⟩ K14 [(2, .pointer (some ⟨b2, 0, none⟩)), (4, .slice (some ⟨b4, 0, none⟩) 14 14), (5, .slice (some ⟨b5, 0, none⟩) 6 6), (6, x.1), (16, .slice q l.length cap), (17, .int .i64 (l.length : Int)), (18, .int .i64 (i : Int))] x.2.1 (slc 29 6 x.1 x.2.2.1.length x.2.2.2.flatten :: slc 9 1 (.slice (some ⟨b5, 0, none⟩) 6 6) 6 ([[110, 111, 116], [110, 101, 103], [105, 115, 110, 117, 108, 108], [115, 117, 109], [109, 105, 110], [109, 97, 120]].map fun s => Value.string (str s)) :: slc 9 1 (.slice (some ⟨b4, 0, none⟩) 14 14) 14 ([[111, 114], [97, 110, 100], [61], [60, 62], [60], [60, 61], [62], [62, 61], [43], [45], [124, 124], [42], [47], [37]].map fun s => Value.string (str s)) :: blk b2 [.string (str []), .int .i64 0, .int .i64 0, .string (str []), .string (str []), .slice none 0 0] 29 :: F) := by
     rintro ⟨vp, R1, p, css⟩ ⟨hR1, hvo, hP⟩
     try dsimp only
     dsimp only at hR1 hvo hP
     refine hK14 _ _ _ ?_
     refine cj_region ?_
     first | refine rv0 rfl rfl rfl (y_add64 rfl rfl (by (first | omega | (dsimp only; omega) | (simp; done) | (simp; omega)))) ?_ | refine rv0 rfl rfl rfl (y_add rfl rfl) ?_
     refine rv0 rfl rfl rfl (y_move rfl) ?_
     refine rj_nil ?_
     refine ej_on (q' := roundK _ _ _ _ _ _ _) rfl ?_
     refine ej_round ((i + 1, vp, R1, p, css)) (⟨by dsimp only; omega, hR1, hvo, hP.mono (Hp.le_refl _) (by omega)⟩) (by dsimp only; omega) (eC rfl (eC rfl (eC rfl (eC rfl (eC rfl (eC rfl (eC rfl eN))))))) rfl (by (repeat (first|exact zR _|(apply zP;focus (repeat (first|exact zH _|apply zT)))|apply zD|exact zA _ _)))
    refine cj_block ?_
    refine cj_seq (fun K15 hK15 => ?_)
    refine cj_region ?_
    obtain ⟨x, hx⟩ : ∃ x, l[i]? = some x := ⟨l[i]'(by omega), by simp⟩
    obtain ⟨b, off, cap', cs, he, rfl, hcl, hcell⟩ := hl.at hx
    obtain ⟨rfl, rfl⟩ : q = some ⟨b, off, none⟩ ∧ cap = cap' := by cases he; exact ⟨rfl, rfl⟩
    have hxb := hb x (List.mem_of_getElem? hx)
    first | refine rv0 rfl rfl rfl (y_indexAddr Try.underlying22 Try.sizeOf71 rfl rfl (by (first | omega | (dsimp only; omega) | (simp; done) | (simp; omega)))) ?_ | refine rv0 rfl rfl rfl (y_index_slc Try.underlying22 Try.sizeOf71 rfl rfl (by (repeat (first|exact zH _|apply zT));done) (by (first | omega | (dsimp only; omega) | (simp; done) | (simp; omega)))) ?_
    refine rv0 rfl rfl rfl ((y_loads_ro ⟨Try.isAgg71, Try.sizeOf71⟩ (vs := stC x) rfl rfl (fun j u hj => cell_mono hR1 (hcell j u hj)))) ?_
    refine rj_alloc (wn0 rfl) rfl Try.zeroValue71 rfl (fun b8 => ?_)
    refine rj_stores_all (vs := stC x) ⟨Try.isAgg71, Try.sizeOf71⟩ rfl (wn0 rfl) rfl rfl (stE.one (R := R) (x := x) rfl) (by (repeat (first|exact zH _|apply zT));done) rfl ?_
    unfold stC
    refine rj_nil ?_
    refine hK15 _ _ _ ?_
    refine cj_env (eL 2 rfl (eL 4 rfl (eL 5 rfl (eL 6 rfl (eL 8 rfl (eL 16 rfl (eL 17 rfl (eL 18 rfl eN)))))))) ?_
    refine cj_seq (fun K16 hK16 => ?_)
    refine cj_seq (fun K17 hK17 => ?_)
    refine cj_region ?_
    refine rv0 rfl rfl rfl (y_fieldAddr (k := 2) Try.underlying71 rfl (n := 1) (by decide) Try.sizeOf9 rfl) ?_
    first | refine rv0 rfl rfl rfl (y_load ⟨Try.isAgg9, Try.sizeOf9⟩ rfl (by (repeat (first|exact zH _|apply zT));done) rfl) ?_ | refine rv0 rfl rfl rfl (y_load_slc ⟨Try.isAgg9, Try.sizeOf9⟩ rfl (by (repeat (first|exact zH _|apply zT));done) rfl) ?_
    refine rv0 rfl rfl rfl (y_slen Try.underlying9 rfl) ?_
    refine rv0 rfl rfl rfl (y_gtr rfl rfl) ?_
    refine rj_nil ?_
    refine hK17 _ _ _ ?_
    refine cj_env (eL 2 rfl (eL 4 rfl (eL 5 rfl (eL 6 rfl (eL 8 rfl (eL 16 rfl (eL 17 rfl (eL 18 rfl (eL 25 rfl eN))))))))) ?_
    refine cj_cond rfl (fun hc25 => ?_) (fun hc25 => ?_)
    ·try simp only [dT, dF, nT, nF, tF, fT] at hc25
     refine cj_seq (fun K19 hK19 => ?_)
     refine cj_region ?_
     refine rv0 rfl rfl rfl (y_build (cells := [_, _, _, _, _, _]) [(0, 1), (1, 3), (4, 1), (5, 1)] Try.underlying29 Try.zeroValue29 (fun _ => rfl) rfl rfl) ?_
     refine rj_stores ⟨Try.isAgg29, Try.sizeOf29⟩ rfl (wn0 rfl) rfl rfl (by (first | (simp [Value.oneCell']; done) | (intro u hu; simp only [List.mem_cons, List.not_mem_nil, or_false] at hu; rcases hu with rfl | rfl | rfl | rfl <;> first | rfl | assumption))) (by (repeat (first|exact zH _|apply zT));done) (by (simp)) rfl ?_
     refine rv0 rfl rfl rfl (y_assign rfl) ?_
     refine rj_nil ?_
     refine hK19 _ _ _ ?_
     refine cj_env (eL 2 rfl (eL 3 rfl eN)) ?_
     refine cj_ret ?_
     refine hret _ _ _ ?_
     apply ej_ret Try.results11 (.cons (rv_cells ⟨Try.isAgg29, Try.sizeOf29⟩ rfl (by (repeat (first|exact zH _|apply zT));done) rfl rfl) (.cons (rv_tmp rfl) .nil)) _ [] (by (first | exact Hp.le_refl _ | assumption | exact Hp.le_trans ‹_› ‹_›)) rfl
     case hp => exact ⟨rfl, _, false, rfl, rfl, zero_one, fun h => by cases h⟩
     case hS => (repeat (first|exact zR _|(apply zP;focus (repeat (first|exact zH _|apply zT)))|apply zD|exact zA _ _))
    ·have hs60 : x.s.length ≤ 60 := by (try simp at hc25); omega
     refine cj_skip ?_
     refine hK16 _ _ _ ?_
     refine cj_seq (fun K20 hK20 => ?_)
     refine cj_region ?_
     refine rv0 rfl rfl rfl (y_move rfl) ?_
     first | refine rv0 rfl rfl rfl (y_len_sl Try.underlying27 rfl) ?_ | refine rv0 rfl rfl rfl (y_len_slc Try.underlying27 rfl (by (repeat (first|exact zH _|apply zT));done)) ?_
     refine rv0 rfl rfl rfl (y_assign rfl) ?_
     refine rj_nil ?_
     refine hK20 _ _ _ ?_
     refine cj_env (eL 2 rfl (eL 4 rfl (eL 5 rfl (eL 6 rfl (eL 8 rfl (eL 9 rfl (eL 16 rfl (eL 17 rfl (eL 18 rfl eN))))))))) ?_
     refine cj_block ?_
     refine cj_seq (fun K21 hK21 => ?_)
     refine cj_region ?_
     refine rv0 rfl rfl rfl (y_fieldAddr (k := 0) Try.underlying71 rfl (n := 1) (by decide) Try.sizeOf3 rfl) ?_
     first | refine rv0 rfl rfl rfl (y_load ⟨Try.isAgg3, Try.sizeOf3⟩ rfl (by (repeat (first|exact zH _|apply zT));done) rfl) ?_ | refine rv0 rfl rfl rfl (y_load_slc ⟨Try.isAgg3, Try.sizeOf3⟩ rfl (by (repeat (first|exact zH _|apply zT));done) rfl) ?_
     refine rv0 rfl rfl rfl (y_eql rfl rfl) ?_
     refine rv0 rfl rfl rfl (y_assign rfl) ?_
     refine rj_nil ?_
     refine hK21 _ _ _ ?_
     refine cj_env (eL 2 rfl (eL 4 rfl (eL 5 rfl (eL 6 rfl (eL 8 rfl (eL 9 rfl (eL 16 rfl (eL 17 rfl (eL 18 rfl (eL 29 rfl eN)))))))))) ?_
     refine cj_cond rfl (fun hc29 => ?_) (fun hc29 => ?_)
     ·try simp only [dT, dF, nT, nF, tF, fT] at hc29
      refine cj_region ?_
      refine rv0 rfl rfl rfl (y_move rfl) ?_
      refine rv0 rfl rfl rfl (y_fieldAddr (k := 1) Try.underlying71 rfl (n := 1) (by decide) Try.sizeOf2 rfl) ?_
      first | refine rv0 rfl rfl rfl (y_load ⟨Try.isAgg2, Try.sizeOf2⟩ rfl (by (repeat (first|exact zH _|apply zT));done) rfl) ?_ | refine rv0 rfl rfl rfl (y_load_slc ⟨Try.isAgg2, Try.sizeOf2⟩ rfl (by (repeat (first|exact zH _|apply zT));done) rfl) ?_
      refine rv0 rfl rfl rfl (y_build (cells := [_, _, _]) [(0, 1), (1, 1), (2, 1)] Try.underlying26 Try.zeroValue26 (fun _ => rfl) rfl rfl) ?_
      refine rv0 rfl rfl rfl (y_build (cells := [_, _, _, _, _, _]) [(0, 1), (1, 3), (4, 1), (5, 1)] Try.underlying29 Try.zeroValue29 (fun _ => rfl) rfl rfl) ?_
      refine rj_buildSlice (sz := 6) (wn0 rfl) rfl Try.underlying27 Try.sizeOf29 Try.zeroValue29 rfl rfl rfl (by decide) (by decide) (fun bz => ?_)
      refine rj_append (sz := 6) (by_ := 88) ⟨Try.underlying27, _, _, rfl, rfl, rfl, rfl, rfl⟩ (wn0 rfl) rfl rfl rfl (by (repeat (first|exact zH _|apply zT));done) (src_slc (xs := exC Op.val.str ⟨1, x.n, []⟩ [] (.slice none 0 0)) Try.underlying27 (by (repeat (first|exact zH _|apply zT));done) (RepX.one (R := R) (x := .mk .val ⟨1, x.n, []⟩ [] []) (RepX.of FrX.nil))) rfl (by (first | omega | (dsimp only; omega) | (simp; done) | (simp; omega))) (by simp only [maxLen]; omega) (fun v39 ho39 hh39 => ?_)
      rw [flat_snoc, show p.length + 1 = (p ++ [Ex.mk .val ⟨1, x.n, []⟩ [] []]).length by simp]
      refine rv0 rfl rfl rfl (y_assign rfl) ?_
      refine rj_nil ?_
      refine ej_join hJ26 ((v39, R1, p ++ [.mk .val ⟨1, x.n, []⟩ [] []], css ++ [exC Op.val.str ⟨1, x.n, []⟩ [] (.slice none 0 0)])) (⟨hR1, by assumption, hP.leaf .val ⟨1, x.n, []⟩ [] rfl rfl hxb⟩) (eC rfl (eC rfl (eC rfl (eC rfl (eC rfl (eC rfl (eC rfl eN))))))) rfl (by (repeat (first|exact zR _|(apply zP;focus (repeat (first|exact zH _|apply zT)))|apply zD|exact zA _ _)))
     ·try simp only [dT, dF, nT, nF, tF, fT] at hc29
      refine cj_seq (fun K23 hK23 => ?_)
      refine cj_region ?_
      refine rv0 rfl rfl rfl (y_fieldAddr (k := 0) Try.underlying71 rfl (n := 1) (by decide) Try.sizeOf3 rfl) ?_
      first | refine rv0 rfl rfl rfl (y_load ⟨Try.isAgg3, Try.sizeOf3⟩ rfl (by (repeat (first|exact zH _|apply zT));done) rfl) ?_ | refine rv0 rfl rfl rfl (y_load_slc ⟨Try.isAgg3, Try.sizeOf3⟩ rfl (by (repeat (first|exact zH _|apply zT));done) rfl) ?_
      refine rv0 rfl rfl rfl (y_eql rfl rfl) ?_
      refine rv0 rfl rfl rfl (y_assign rfl) ?_
      refine rj_nil ?_
      refine hK23 _ _ _ ?_
      refine cj_env (eL 2 rfl (eL 4 rfl (eL 5 rfl (eL 6 rfl (eL 8 rfl (eL 9 rfl (eL 16 rfl (eL 17 rfl (eL 18 rfl (eL 40 rfl eN)))))))))) ?_
      refine cj_cond rfl (fun hc40 => ?_) (fun hc40 => ?_)
      ·try simp only [dT, dF, nT, nF, tF, fT] at hc40
       refine cj_region ?_
       refine rv0 rfl rfl rfl (y_move rfl) ?_
       refine rv0 rfl rfl rfl (y_fieldAddr (k := 2) Try.underlying71 rfl (n := 1) (by decide) Try.sizeOf9 rfl) ?_
       first | refine rv0 rfl rfl rfl (y_load ⟨Try.isAgg9, Try.sizeOf9⟩ rfl (by (repeat (first|exact zH _|apply zT));done) rfl) ?_ | refine rv0 rfl rfl rfl (y_load_slc ⟨Try.isAgg9, Try.sizeOf9⟩ rfl (by (repeat (first|exact zH _|apply zT));done) rfl) ?_
       refine rv0 rfl rfl rfl (y_build (cells := [_, _, _]) [(0, 1), (1, 1), (2, 1)] Try.underlying26 Try.zeroValue26 (fun _ => rfl) rfl rfl) ?_
       refine rv0 rfl rfl rfl (y_build (cells := [_, _, _, _, _, _]) [(0, 1), (1, 3), (4, 1), (5, 1)] Try.underlying29 Try.zeroValue29 (fun _ => rfl) rfl rfl) ?_
       refine rj_buildSlice (sz := 6) (wn0 rfl) rfl Try.underlying27 Try.sizeOf29 Try.zeroValue29 rfl rfl rfl (by decide) (by decide) (fun bz => ?_)
       refine rj_append (sz := 6) (by_ := 88) ⟨Try.underlying27, _, _, rfl, rfl, rfl, rfl, rfl⟩ (wn0 rfl) rfl rfl rfl (by (repeat (first|exact zH _|apply zT));done) (src_slc (xs := exC Op.val.str ⟨2, 0, x.s⟩ [] (.slice none 0 0)) Try.underlying27 (by (repeat (first|exact zH _|apply zT));done) (RepX.one (R := R) (x := .mk .val ⟨2, 0, x.s⟩ [] []) (RepX.of FrX.nil))) rfl (by (first | omega | (dsimp only; omega) | (simp; done) | (simp; omega))) (by simp only [maxLen]; omega) (fun v50 ho50 hh50 => ?_)
       rw [flat_snoc, show p.length + 1 = (p ++ [Ex.mk .val ⟨2, 0, x.s⟩ [] []]).length by simp]
       refine rv0 rfl rfl rfl (y_assign rfl) ?_
       refine rj_nil ?_
       refine ej_join hJ26 ((v50, R1, p ++ [.mk .val ⟨2, 0, x.s⟩ [] []], css ++ [exC Op.val.str ⟨2, 0, x.s⟩ [] (.slice none 0 0)])) (⟨hR1, by assumption, hP.leaf .val ⟨2, 0, x.s⟩ [] rfl (by simp [isV]; omega) (by simp [b64])⟩) (eC rfl (eC rfl (eC rfl (eC rfl (eC rfl (eC rfl (eC rfl eN))))))) rfl (by (repeat (first|exact zR _|(apply zP;focus (repeat (first|exact zH _|apply zT)))|apply zD|exact zA _ _)))
      ·try simp only [dT, dF, nT, nF, tF, fT] at hc40
       refine cj_seq (fun K25 hK25 => ?_)
       refine cj_region ?_
       refine rv0 rfl rfl rfl (y_fieldAddr (k := 0) Try.underlying71 rfl (n := 1) (by decide) Try.sizeOf3 rfl) ?_
       first | refine rv0 rfl rfl rfl (y_load ⟨Try.isAgg3, Try.sizeOf3⟩ rfl (by (repeat (first|exact zH _|apply zT));done) rfl) ?_ | refine rv0 rfl rfl rfl (y_load_slc ⟨Try.isAgg3, Try.sizeOf3⟩ rfl (by (repeat (first|exact zH _|apply zT));done) rfl) ?_
       refine rv0 rfl rfl rfl (y_eql rfl rfl) ?_
       refine rv0 rfl rfl rfl (y_assign rfl) ?_
       refine rj_nil ?_
       refine hK25 _ _ _ ?_
       refine cj_env (eL 2 rfl (eL 4 rfl (eL 5 rfl (eL 6 rfl (eL 8 rfl (eL 9 rfl (eL 16 rfl (eL 17 rfl (eL 18 rfl (eL 51 rfl eN)))))))))) ?_
       refine cj_cond rfl (fun hc51 => ?_) (fun hc51 => ?_)
       ·try simp only [dT, dF, nT, nF, tF, fT] at hc51
        refine cj_region ?_
        refine rv0 rfl rfl rfl (y_move rfl) ?_
        refine rv0 rfl rfl rfl (y_build (cells := [_, _, _, _, _, _]) [(0, 1), (1, 3), (4, 1), (5, 1)] Try.underlying29 Try.zeroValue29 (fun _ => rfl) rfl rfl) ?_
        refine rj_buildSlice (sz := 6) (wn0 rfl) rfl Try.underlying27 Try.sizeOf29 Try.zeroValue29 rfl rfl rfl (by decide) (by decide) (fun bz => ?_)
        refine rj_append (sz := 6) (by_ := 88) ⟨Try.underlying27, _, _, rfl, rfl, rfl, rfl, rfl⟩ (wn0 rfl) rfl rfl rfl (by (repeat (first|exact zH _|apply zT));done) (src_slc (xs := exC Op.val.str Vl.zero [] (.slice none 0 0)) Try.underlying27 (by (repeat (first|exact zH _|apply zT));done) (RepX.one (R := R) (x := .mk .val Vl.zero [] []) (RepX.of FrX.nil))) rfl (by (first | omega | (dsimp only; omega) | (simp; done) | (simp; omega))) (by simp only [maxLen]; omega) (fun v58 ho58 hh58 => ?_)
        rw [flat_snoc, show p.length + 1 = (p ++ [Ex.mk .val Vl.zero [] []]).length by simp]
        refine rv0 rfl rfl rfl (y_assign rfl) ?_
        refine rj_nil ?_
        refine ej_join hJ26 ((v58, R1, p ++ [.mk .val Vl.zero [] []], css ++ [exC Op.val.str Vl.zero [] (.slice none 0 0)])) (⟨hR1, by assumption, hP.leaf .val Vl.zero [] rfl rfl (by simp [b64, Vl.zero])⟩) (eC rfl (eC rfl (eC rfl (eC rfl (eC rfl (eC rfl (eC rfl eN))))))) rfl (by (repeat (first|exact zR _|(apply zP;focus (repeat (first|exact zH _|apply zT)))|apply zD|exact zA _ _)))
       ·try simp only [dT, dF, nT, nF, tF, fT] at hc51
        refine cj_seq (fun K27 hK27 => ?_)
        refine cj_region ?_
        refine rv0 rfl rfl rfl (y_fieldAddr (k := 0) Try.underlying71 rfl (n := 1) (by decide) Try.sizeOf3 rfl) ?_
        first | refine rv0 rfl rfl rfl (y_load ⟨Try.isAgg3, Try.sizeOf3⟩ rfl (by (repeat (first|exact zH _|apply zT));done) rfl) ?_ | refine rv0 rfl rfl rfl (y_load_slc ⟨Try.isAgg3, Try.sizeOf3⟩ rfl (by (repeat (first|exact zH _|apply zT));done) rfl) ?_
        refine rv0 rfl rfl rfl (y_eql rfl rfl) ?_
        refine rv0 rfl rfl rfl (y_assign rfl) ?_
        refine rj_nil ?_
        refine hK27 _ _ _ ?_
        refine cj_env (eL 2 rfl (eL 4 rfl (eL 5 rfl (eL 6 rfl (eL 8 rfl (eL 9 rfl (eL 16 rfl (eL 17 rfl (eL 18 rfl (eL 59 rfl eN)))))))))) ?_
        refine cj_cond rfl (fun hc59 => ?_) (fun hc59 => ?_)
        ·try simp only [dT, dF, nT, nF, tF, fT] at hc59
         refine cj_region ?_
         refine rv0 rfl rfl rfl (y_move rfl) ?_
         refine rv0 rfl rfl rfl (y_fieldAddr (k := 2) Try.underlying71 rfl (n := 1) (by decide) Try.sizeOf9 rfl) ?_
         first | refine rv0 rfl rfl rfl (y_load ⟨Try.isAgg9, Try.sizeOf9⟩ rfl (by (repeat (first|exact zH _|apply zT));done) rfl) ?_ | refine rv0 rfl rfl rfl (y_load_slc ⟨Try.isAgg9, Try.sizeOf9⟩ rfl (by (repeat (first|exact zH _|apply zT));done) rfl) ?_
         refine rj_call (wn0 rfl) rfl Try.call33 rfl (name_t x.s hs60) (by (repeat (first|exact zN _|(apply zS;focus (repeat (first|exact zH _|apply zT)))))) (fun _ _ _ _ h => h.elim) ?_
         rintro u R' L' hR ⟨rfl, ⟨nm, rfl⟩, rfl⟩
         try simp only [List.cons_append, List.nil_append]
         refine rv0 rfl rfl rfl (y_build (cells := [_, _, _, _, _, _]) [(0, 1), (1, 3), (4, 1), (5, 1)] Try.underlying29 Try.zeroValue29 (fun _ => rfl) rfl rfl) ?_
         refine rj_buildSlice (sz := 6) (wn0 rfl) rfl Try.underlying27 Try.sizeOf29 Try.zeroValue29 rfl rfl rfl (by decide) (by decide) (fun bz => ?_)
         refine rj_append (sz := 6) (by_ := 88) ⟨Try.underlying27, _, _, rfl, rfl, rfl, rfl, rfl⟩ (wn0 rfl) rfl rfl rfl (by (repeat (first|exact zH _|apply zT));done) (src_slc (xs := exC Op.col.str Vl.zero nm (.slice none 0 0)) Try.underlying27 (by (repeat (first|exact zH _|apply zT));done) (RepX.one (R := R) (x := .mk .col Vl.zero nm []) (RepX.of FrX.nil))) rfl (by (first | omega | (dsimp only; omega) | (simp; done) | (simp; omega))) (by simp only [maxLen]; omega) (fun v69 ho69 hh69 => ?_)
         rw [flat_snoc, show p.length + 1 = (p ++ [Ex.mk .col Vl.zero nm []]).length by simp]
         refine rv0 rfl rfl rfl (y_assign rfl) ?_
         refine rj_nil ?_
         refine ej_join hJ26 ((v69, R1, p ++ [.mk .col Vl.zero nm []], css ++ [exC Op.col.str Vl.zero nm (.slice none 0 0)])) (⟨hR1, by assumption, hP.leaf .col Vl.zero nm rfl rfl (by simp [b64, Vl.zero])⟩) (eC rfl (eC rfl (eC rfl (eC rfl (eC rfl (eC rfl (eC rfl eN))))))) rfl (by (repeat (first|exact zR _|(apply zP;focus (repeat (first|exact zH _|apply zT)))|apply zD|exact zA _ _)))
        ·try simp only [dT, dF, nT, nF, tF, fT] at hc59
         refine cj_seq (fun K29 hK29 => ?_)
         refine cj_region ?_
         refine rv0 rfl rfl rfl (y_fieldAddr (k := 0) Try.underlying71 rfl (n := 1) (by decide) Try.sizeOf3 rfl) ?_
         first | refine rv0 rfl rfl rfl (y_load ⟨Try.isAgg3, Try.sizeOf3⟩ rfl (by (repeat (first|exact zH _|apply zT));done) rfl) ?_ | refine rv0 rfl rfl rfl (y_load_slc ⟨Try.isAgg3, Try.sizeOf3⟩ rfl (by (repeat (first|exact zH _|apply zT));done) rfl) ?_
         refine rv0 rfl rfl rfl (y_eql rfl rfl) ?_
         refine rv0 rfl rfl rfl (y_assign rfl) ?_
         refine rj_nil ?_
         refine hK29 _ _ _ ?_
         refine cj_env (eL 2 rfl (eL 4 rfl (eL 5 rfl (eL 6 rfl (eL 8 rfl (eL 9 rfl (eL 16 rfl (eL 17 rfl (eL 18 rfl (eL 70 rfl eN)))))))))) ?_
         refine cj_cond rfl (fun hc70 => ?_) (fun hc70 => ?_)
         ·try simp only [dT, dF, nT, nF, tF, fT] at hc70
          refine cj_region ?_
          refine rv0 rfl rfl rfl (y_move rfl) ?_
          refine rv0 rfl rfl rfl (y_build (cells := [_, _, _, _, _, _]) [(0, 1), (1, 3), (4, 1), (5, 1)] Try.underlying29 Try.zeroValue29 (fun _ => rfl) rfl rfl) ?_
          refine rj_buildSlice (sz := 6) (wn0 rfl) rfl Try.underlying27 Try.sizeOf29 Try.zeroValue29 rfl rfl rfl (by decide) (by decide) (fun bz => ?_)
          refine rj_append (sz := 6) (by_ := 88) ⟨Try.underlying27, _, _, rfl, rfl, rfl, rfl, rfl⟩ (wn0 rfl) rfl rfl rfl (by (repeat (first|exact zH _|apply zT));done) (src_slc (xs := exC Op.count.str Vl.zero [] (.slice none 0 0)) Try.underlying27 (by (repeat (first|exact zH _|apply zT));done) (RepX.one (R := R) (x := .mk .count Vl.zero [] []) (RepX.of FrX.nil))) rfl (by (first | omega | (dsimp only; omega) | (simp; done) | (simp; omega))) (by simp only [maxLen]; omega) (fun v77 ho77 hh77 => ?_)
          rw [flat_snoc, show p.length + 1 = (p ++ [Ex.mk .count Vl.zero [] []]).length by simp]
          refine rv0 rfl rfl rfl (y_assign rfl) ?_
          refine rj_nil ?_
          refine ej_join hJ26 ((v77, R1, p ++ [.mk .count Vl.zero [] []], css ++ [exC Op.count.str Vl.zero [] (.slice none 0 0)])) (⟨hR1, by assumption, hP.leaf .count Vl.zero [] rfl rfl (by simp [b64, Vl.zero])⟩) (eC rfl (eC rfl (eC rfl (eC rfl (eC rfl (eC rfl (eC rfl eN))))))) rfl (by (repeat (first|exact zR _|(apply zP;focus (repeat (first|exact zH _|apply zT)))|apply zD|exact zA _ _)))
         ·try simp only [dT, dF, nT, nF, tF, fT] at hc70
          refine cj_seq (fun K31 hK31 => ?_)
          refine cj_region ?_
          refine rv0 rfl rfl rfl (y_fieldAddr (k := 0) Try.underlying71 rfl (n := 1) (by decide) Try.sizeOf3 rfl) ?_
          first | refine rv0 rfl rfl rfl (y_load ⟨Try.isAgg3, Try.sizeOf3⟩ rfl (by (repeat (first|exact zH _|apply zT));done) rfl) ?_ | refine rv0 rfl rfl rfl (y_load_slc ⟨Try.isAgg3, Try.sizeOf3⟩ rfl (by (repeat (first|exact zH _|apply zT));done) rfl) ?_
          refine rv0 rfl rfl rfl (y_geq rfl rfl) ?_
          refine rv0 rfl rfl rfl (y_move rfl) ?_
          refine rj_part 82 rfl (fun hg82 => ?_) (fun hg82 => ?_)
          ·try simp only [dT, dF, nT, nF, tF, fT] at hg82
           refine rj_val (wn1 rfl rfl rfl rfl) rfl rfl (y_fieldAddr (k := 0) Try.underlying71 rfl (n := 1) (by decide) Try.sizeOf3 rfl) ?_
           first | refine rj_val (wn1 rfl rfl rfl rfl) rfl rfl (y_load ⟨Try.isAgg3, Try.sizeOf3⟩ rfl (by (repeat (first|exact zH _|apply zT));done) rfl) ?_ | refine rj_val (wn1 rfl rfl rfl rfl) rfl rfl (y_load_slc ⟨Try.isAgg3, Try.sizeOf3⟩ rfl (by (repeat (first|exact zH _|apply zT));done) rfl) ?_
           refine rj_val (wn1 rfl rfl rfl rfl) rfl rfl (y_leq rfl rfl) ?_
           refine rv0 rfl rfl rfl (y_pick_t rfl rfl) ?_
           refine rv0 rfl rfl rfl (y_move rfl) ?_
           refine rj_part 87 rfl (fun hg87 => ?_) (fun hg87 => ?_)
           ·try simp only [dT, dF, nT, nF, tF, fT] at hg87
            refine rj_val (wn1 rfl rfl rfl rfl) rfl rfl (y_move rfl) ?_
            refine rj_val (wn1 rfl rfl rfl rfl) rfl rfl (y_gtr rfl rfl) ?_
            refine rv0 rfl rfl rfl (y_pick_t rfl rfl) ?_
            refine rv0 rfl rfl rfl (y_assign rfl) ?_
            refine rj_nil ?_
            refine hK31 _ _ _ ?_
            refine cj_env (eL 2 rfl (eL 4 rfl (eL 5 rfl (eL 6 rfl (eL 8 rfl (eL 9 rfl (eL 16 rfl (eL 17 rfl (eL 18 rfl (eL 78 rfl eN)))))))))) ?_
            refine cj_cond rfl (fun hc78 => ?_) (fun hc78 => ?_)
            ·try simp only [dT, dF, nT, nF, tF, fT] at hc78
             obtain ⟨op, ha1, hop⟩ := ones_nth (w := x.what) (by (try simp at hg82 hg87); omega)
             have hp0 : 0 < p.length := by (try simp at hc78); omega
             obtain ⟨a, ca, ham, hac, hax, hpart⟩ := pile_at hP.els (k := 1) (by decide) hp0
             obtain ⟨aop, av, an, ak, avk, rfl, rfl, hka⟩ := hac.inv
             refine cj_mixg (L := [blk b8 [.int .i64 x.what, .int .i64 x.n, .string (str x.s)] 71, slc 29 6 vp p.length css.flatten, slc 9 1 (.slice (some ⟨b5, 0, none⟩) 6 6) 6 ([[110, 111, 116], [110, 101, 103], [105, 115, 110, 117, 108, 108], [115, 117, 109], [109, 105, 110], [109, 97, 120]].map fun s => Value.string (str s))]) [0, 1, 2, 3, 4, 5, 6, 7, 8, 9, 10, 11, 12, 13] [14, 15] [16, 17] _ (by (repeat (first|exact zR _|(apply zP;focus (repeat (first|exact zH _|apply zT)))|apply zD|exact zA _ _))) (by kernel_rfl) (by kernel_rfl) (by kernel_rfl) rfl ?_
             refine fj_val rfl rfl rfl (wn0 rfl) (fun R1 hR1 G => (y_move rfl)) ?_
             refine fj_val rfl rfl rfl (wn0 rfl) (fun R1 hR1 G => (y_move rfl)) ?_
             first | refine fj_val rfl rfl rfl (wn0 rfl) (fun R1 hR1 G => (y_sub64 rfl rfl (by (first | omega | (dsimp only; omega) | (simp; done) | (simp; omega))))) ?_ | refine fj_val rfl rfl rfl (wn0 rfl) (fun R1 hR1 G => (y_sub rfl rfl)) ?_
             refine fj_val rfl rfl rfl (wn0 rfl) (fun R1 hR1 G => (y_move rfl)) ?_
             refine fj_val rfl rfl rfl (wn0 rfl) (fun R1 hR1 G => (y_fieldAddr (k := 0) Try.underlying71 rfl (n := 1) (by decide) Try.sizeOf3 rfl)) ?_
             first | refine fj_val rfl rfl rfl (wn0 rfl) (fun R1 hR1 G => (y_load ⟨Try.isAgg3, Try.sizeOf3⟩ rfl (by (repeat (first|exact zH _|apply zT));done) rfl)) ?_ | refine fj_val rfl rfl rfl (wn0 rfl) (fun R1 hR1 G => (y_load_slc ⟨Try.isAgg3, Try.sizeOf3⟩ rfl (by (repeat (first|exact zH _|apply zT));done) rfl)) ?_
             first | refine fj_val rfl rfl rfl (wn0 rfl) (fun R1 hR1 G => (y_sub64 rfl rfl (by (first | omega | (dsimp only; omega) | (simp; done) | (simp; omega))))) ?_ | refine fj_val rfl rfl rfl (wn0 rfl) (fun R1 hR1 G => (y_sub rfl rfl)) ?_
             refine fj_val rfl rfl rfl (wn0 rfl) (fun R1 hR1 G => (y_index_slc (sz := 1) (n := 6) Try.underlying68 Try.sizeOf9 rfl rfl (by (repeat (first|exact zH _|apply zT));done) (by (try simp at hg82 hg87); omega))) ?_
             refine fj_val rfl rfl rfl (wn0 rfl) (fun R1 hR1 G => (y_load_slc ⟨Try.isAgg9, Try.sizeOf9⟩ rfl (by (repeat (first|exact zH _|apply zT));done) hop)) ?_
             refine fj_val rfl rfl rfl (wn0 rfl) (fun R1 hR1 G => (y_move rfl)) ?_
             refine fj_val rfl rfl rfl (wn0 rfl) (fun R1 hR1 G => (y_move rfl)) ?_
             first | refine fj_val rfl rfl rfl (wn0 rfl) (fun R1 hR1 G => (y_sub64 rfl rfl (by (first | omega | (dsimp only; omega) | (simp; done) | (simp; omega))))) ?_ | refine fj_val rfl rfl rfl (wn0 rfl) (fun R1 hR1 G => (y_sub rfl rfl)) ?_
             refine fj_val rfl rfl rfl (wn0 rfl) (fun R1 hR1 G => (y_index_slc (sz := 6) (n := p.length) Try.underlying27 Try.sizeOf29 rfl rfl (by (repeat (first|exact zH _|apply zT));done) (by omega))) ?_
             refine fj_val rfl rfl rfl (wn0 rfl) (fun R1 hR1 G => (y_loads_slc ⟨Try.isAgg29, Try.sizeOf29⟩ rfl (by (repeat (first|exact zH _|apply zT));done) hpart rfl (by omega))) ?_
             refine fj_nil ?_
             refine xj_rj rfl ?_
             try simp only [List.cons_append, List.nil_append, List.append_nil]
             refine rj_buildSlice (sz := 6) (wn0 rfl) rfl Try.underlying27 Try.sizeOf29 Try.zeroValue29 rfl rfl rfl (by decide) (by decide) (fun bk => ?_)
             refine rj_freeze (e := 29) (sz := 6) (n := 1) (v := .slice (some ⟨bk, 0, none⟩) 1 1) (xs := exC aop.str av an avk) (by (repeat (first|exact zH _|apply zT));done) (fun R2 hR2 hfr hxl => ?_)
             have hkf : FrX exE R2 [Ex.mk aop av an ak] (.slice (some ⟨bk, 0, none⟩) 1 1) := FrozenS.frx (l := [Ex.mk aop av an ak]) (css := [exC aop.str av an avk]) (by simpa using hfr) (Els.single (hac.mono hR2))
             refine rj_xk (by (first | exact Hp.le_refl _ | assumption | exact Hp.le_trans ‹_› ‹_›)) (by (repeat (first|exact zR _|(apply zP;focus (repeat (first|exact zH _|apply zT)))|apply zD|exact zA _ _))) ?_
             refine xj_rj rfl ?_
             try simp only [List.cons_append, List.nil_append, List.append_nil]
             refine rv0 rfl rfl rfl (y_build (cells := [_, _, _, _, _, _]) [(0, 1), (1, 3), (4, 1), (5, 1)] Try.underlying29 Try.zeroValue29 (fun _ => rfl) rfl rfl) ?_
             refine rj_xk (by (first | exact Hp.le_refl _ | assumption | exact Hp.le_trans ‹_› ‹_›)) (by (repeat (first|exact zR _|(apply zP;focus (repeat (first|exact zH _|apply zT)))|apply zD|exact zA _ _))) ?_
             refine xj_nil ?_
             try simp only [List.cons_append, List.nil_append, List.append_nil]
             refine rv0 rfl rfl rfl ((y_index_slc (sz := 6) (n := p.length) Try.underlying27 Try.sizeOf29 rfl rfl (by (repeat (first|exact zH _|apply zT));done) (by omega))) ?_
             refine rj_stores_slc (sz := 6) (n := p.length) (j := ((p.length : Int) - 1).toNat * 6) (vs := exC op.str Vl.zero [] (.slice (some ⟨bk, 0, none⟩) 1 1)) ⟨Try.isAgg29, Try.sizeOf29⟩ rfl (wn0 rfl) rfl rfl (RepX.one (R := R2) (x := .mk op Vl.zero [] [Ex.mk aop av an ak]) (RepX.of hkf)) (by (repeat (first|exact zH _|apply zT));done) (by rw [hP.els.flat]; show _ + 6 ≤ p.length * 6; omega) (top_set hP.els hp0 rfl) hp0 ?_
             refine rj_turn (A := slc 29 6 vp p.length (css.take (p.length - 1) ++ [exC op.str Vl.zero [] (.slice (some ⟨bk, 0, none⟩) 1 1)]).flatten) (B := slc 29 6 vp (p.take (p.length - 1) ++ [Ex.mk op Vl.zero [] [Ex.mk aop av an ak]]).length (css.take (p.length - 1) ++ [exC op.str Vl.zero [] (.slice (some ⟨bk, 0, none⟩) 1 1)]).flatten) (by (repeat (first|exact zH _|apply zT));done) (fun h hh => by rw [show (p.take (p.length - 1) ++ [Ex.mk op Vl.zero [] [Ex.mk aop av an ak]]).length = p.length by simp; omega]; exact hh) ?_
             refine rj_nil ?_
             refine ej_join hJ26 ((vp, R2, p.take (p.length - 1) ++ [.mk op Vl.zero [] [Ex.mk aop av an ak]], css.take (p.length - 1) ++ [exC op.str Vl.zero [] (.slice (some ⟨bk, 0, none⟩) 1 1)])) (⟨Hp.le_trans hR1 hR2, hvo, hP.over hR2 op 1 [Ex.mk aop av an ak] _ ha1.symm (by simpa using ham) hkf (by decide) (by omega)⟩) (eC rfl (eC rfl (eC rfl (eC rfl (eC rfl (eC rfl (eC rfl eN))))))) rfl (by (repeat (first|exact zR _|(apply zP;focus (repeat (first|exact zH _|apply zT)))|apply zD|exact zA _ _)))
            ·try simp only [dT, dF, nT, nF, tF, fT] at hc78
             refine cj_seq (fun K33 hK33 => ?_)
             refine cj_region ?_
             refine rv0 rfl rfl rfl (y_fieldAddr (k := 0) Try.underlying71 rfl (n := 1) (by decide) Try.sizeOf3 rfl) ?_
             first | refine rv0 rfl rfl rfl (y_load ⟨Try.isAgg3, Try.sizeOf3⟩ rfl (by (repeat (first|exact zH _|apply zT));done) rfl) ?_ | refine rv0 rfl rfl rfl (y_load_slc ⟨Try.isAgg3, Try.sizeOf3⟩ rfl (by (repeat (first|exact zH _|apply zT));done) rfl) ?_
             refine rv0 rfl rfl rfl (y_geq rfl rfl) ?_
             refine rv0 rfl rfl rfl (y_move rfl) ?_
             refine rj_part 112 rfl (fun hg112 => ?_) (fun hg112 => ?_)
             ·try simp only [dT, dF, nT, nF, tF, fT] at hg112
              refine rj_val (wn1 rfl rfl rfl rfl) rfl rfl (y_fieldAddr (k := 0) Try.underlying71 rfl (n := 1) (by decide) Try.sizeOf3 rfl) ?_
              first | refine rj_val (wn1 rfl rfl rfl rfl) rfl rfl (y_load ⟨Try.isAgg3, Try.sizeOf3⟩ rfl (by (repeat (first|exact zH _|apply zT));done) rfl) ?_ | refine rj_val (wn1 rfl rfl rfl rfl) rfl rfl (y_load_slc ⟨Try.isAgg3, Try.sizeOf3⟩ rfl (by (repeat (first|exact zH _|apply zT));done) rfl) ?_
              refine rj_val (wn1 rfl rfl rfl rfl) rfl rfl (y_lss rfl rfl) ?_
              refine rv0 rfl rfl rfl (y_pick_t rfl rfl) ?_
              refine rv0 rfl rfl rfl (y_move rfl) ?_
              refine rj_part 117 rfl (fun hg117 => ?_) (fun hg117 => ?_)
              ·try simp only [dT, dF, nT, nF, tF, fT] at hg117
               refine rj_val (wn1 rfl rfl rfl rfl) rfl rfl (y_move rfl) ?_
               refine rj_val (wn1 rfl rfl rfl rfl) rfl rfl (y_gtr rfl rfl) ?_
               refine rv0 rfl rfl rfl (y_pick_t rfl rfl) ?_
               refine rv0 rfl rfl rfl (y_assign rfl) ?_
               refine rj_nil ?_
               refine hK33 _ _ _ ?_
               refine cj_env (eL 2 rfl (eL 4 rfl (eL 5 rfl (eL 6 rfl (eL 8 rfl (eL 9 rfl (eL 16 rfl (eL 17 rfl (eL 18 rfl (eL 108 rfl eN)))))))))) ?_
               refine cj_cond rfl (fun hc108 => ?_) (fun hc108 => ?_)
               ·try simp only [dT, dF, nT, nF, tF, fT] at hc108
                obtain ⟨op, ha1, hop⟩ := twos_nth (w := x.what) (by (try simp at hg112 hg117); omega)
                have hp0 : 1 < p.length := by (try simp at hc108); omega
                obtain ⟨a, ca, ham, hac, hax, hpart⟩ := pile_at hP.els (k := 2) (by decide) hp0
                obtain ⟨a2, ca2, ham2, hac2, hax2, hpart2⟩ := pile_at hP.els (k := 1) (by decide) (by omega)
                obtain ⟨aop, av, an, ak, avk, rfl, rfl, hka⟩ := hac.inv
                obtain ⟨aop2, av2, an2, ak2, avk2, rfl, rfl, hka2⟩ := hac2.inv
                refine cj_mixg (L := [blk b8 [.int .i64 x.what, .int .i64 x.n, .string (str x.s)] 71, slc 29 6 vp p.length css.flatten, slc 9 1 (.slice (some ⟨b4, 0, none⟩) 14 14) 14 ([[111, 114], [97, 110, 100], [61], [60, 62], [60], [60, 61], [62], [62, 61], [43], [45], [124, 124], [42], [47], [37]].map fun s => Value.string (str s))]) [0, 1, 2, 3, 4, 5, 6, 7, 8, 9, 10, 11, 12, 13, 14, 15, 16, 17, 18, 19] [20, 21, 22] [23, 24] _ (by (repeat (first|exact zR _|(apply zP;focus (repeat (first|exact zH _|apply zT)))|apply zD|exact zA _ _))) (by kernel_rfl) (by kernel_rfl) (by kernel_rfl) rfl ?_
                refine fj_val rfl rfl rfl (wn0 rfl) (fun R1 hR1 G => (y_move rfl)) ?_
                refine fj_val rfl rfl rfl (wn0 rfl) (fun R1 hR1 G => (y_move rfl)) ?_
                first | refine fj_val rfl rfl rfl (wn0 rfl) (fun R1 hR1 G => (y_sub64 rfl rfl (by (first | omega | (dsimp only; omega) | (simp; done) | (simp; omega))))) ?_ | refine fj_val rfl rfl rfl (wn0 rfl) (fun R1 hR1 G => (y_sub rfl rfl)) ?_
                refine fj_val rfl rfl rfl (wn0 rfl) (fun R1 hR1 G => (y_slice_slc (l := 0) (h := p.length - 2) Try.underlying27 Try.sizeOf29 rfl (by (repeat (first|exact zH _|apply zT));done) rfl ⟨.i64, by show some (Value.int .i64 ((p.length : Int) - 2)) = _; rw [Int.ofNat_sub (by omega)]; rfl⟩ (by omega))) ?_
                refine fj_val rfl rfl rfl (wn0 rfl) (fun R1 hR1 G => (y_move rfl)) ?_
                refine fj_val rfl rfl rfl (wn0 rfl) (fun R1 hR1 G => (y_fieldAddr (k := 0) Try.underlying71 rfl (n := 1) (by decide) Try.sizeOf3 rfl)) ?_
                first | refine fj_val rfl rfl rfl (wn0 rfl) (fun R1 hR1 G => (y_load ⟨Try.isAgg3, Try.sizeOf3⟩ rfl (by (repeat (first|exact zH _|apply zT));done) rfl)) ?_ | refine fj_val rfl rfl rfl (wn0 rfl) (fun R1 hR1 G => (y_load_slc ⟨Try.isAgg3, Try.sizeOf3⟩ rfl (by (repeat (first|exact zH _|apply zT));done) rfl)) ?_
                first | refine fj_val rfl rfl rfl (wn0 rfl) (fun R1 hR1 G => (y_sub64 rfl rfl (by (first | omega | (dsimp only; omega) | (simp; done) | (simp; omega))))) ?_ | refine fj_val rfl rfl rfl (wn0 rfl) (fun R1 hR1 G => (y_sub rfl rfl)) ?_
                refine fj_val rfl rfl rfl (wn0 rfl) (fun R1 hR1 G => (y_index_slc (sz := 1) (n := 14) Try.underlying68 Try.sizeOf9 rfl rfl (by (repeat (first|exact zH _|apply zT));done) (by (try simp at hg112 hg117); omega))) ?_
                refine fj_val rfl rfl rfl (wn0 rfl) (fun R1 hR1 G => (y_load_slc ⟨Try.isAgg9, Try.sizeOf9⟩ rfl (by (repeat (first|exact zH _|apply zT));done) hop)) ?_
                refine fj_val rfl rfl rfl (wn0 rfl) (fun R1 hR1 G => (y_move rfl)) ?_
                refine fj_val rfl rfl rfl (wn0 rfl) (fun R1 hR1 G => (y_move rfl)) ?_
                first | refine fj_val rfl rfl rfl (wn0 rfl) (fun R1 hR1 G => (y_sub64 rfl rfl (by (first | omega | (dsimp only; omega) | (simp; done) | (simp; omega))))) ?_ | refine fj_val rfl rfl rfl (wn0 rfl) (fun R1 hR1 G => (y_sub rfl rfl)) ?_
                refine fj_val rfl rfl rfl (wn0 rfl) (fun R1 hR1 G => (y_index_slc (sz := 6) (n := p.length) Try.underlying27 Try.sizeOf29 rfl rfl (by (repeat (first|exact zH _|apply zT));done) (by omega))) ?_
                refine fj_val rfl rfl rfl (wn0 rfl) (fun R1 hR1 G => (y_loads_slc ⟨Try.isAgg29, Try.sizeOf29⟩ rfl (by (repeat (first|exact zH _|apply zT));done) hpart rfl (by omega))) ?_
                refine fj_val rfl rfl rfl (wn0 rfl) (fun R1 hR1 G => (y_move rfl)) ?_
                refine fj_val rfl rfl rfl (wn0 rfl) (fun R1 hR1 G => (y_move rfl)) ?_
                first | refine fj_val rfl rfl rfl (wn0 rfl) (fun R1 hR1 G => (y_sub64 rfl rfl (by (first | omega | (dsimp only; omega) | (simp; done) | (simp; omega))))) ?_ | refine fj_val rfl rfl rfl (wn0 rfl) (fun R1 hR1 G => (y_sub rfl rfl)) ?_
                refine fj_val rfl rfl rfl (wn0 rfl) (fun R1 hR1 G => (y_index_slc (sz := 6) (n := p.length) Try.underlying27 Try.sizeOf29 rfl rfl (by (repeat (first|exact zH _|apply zT));done) (by omega))) ?_
                refine fj_val rfl rfl rfl (wn0 rfl) (fun R1 hR1 G => (y_loads_slc ⟨Try.isAgg29, Try.sizeOf29⟩ rfl (by (repeat (first|exact zH _|apply zT));done) hpart2 rfl (by omega))) ?_
                refine fj_nil ?_
                refine xj_rj rfl ?_
                try simp only [List.cons_append, List.nil_append, List.append_nil]
                refine rj_buildSlice (sz := 6) (wn0 rfl) rfl Try.underlying27 Try.sizeOf29 Try.zeroValue29 rfl rfl rfl (by decide) (by decide) (fun bk => ?_)
                refine rj_freeze (e := 29) (sz := 6) (n := 2) (v := .slice (some ⟨bk, 0, none⟩) 2 2) (xs := exC aop.str av an avk ++ exC aop2.str av2 an2 avk2) (by (repeat (first|exact zH _|apply zT));done) (fun R2 hR2 hfr hxl => ?_)
                have hkf : FrX exE R2 [Ex.mk aop av an ak, Ex.mk aop2 av2 an2 ak2] (.slice (some ⟨bk, 0, none⟩) 2 2) := FrozenS.frx (l := [Ex.mk aop av an ak, Ex.mk aop2 av2 an2 ak2]) (css := [exC aop.str av an avk, exC aop2.str av2 an2 avk2]) (by simpa using hfr) ((Els.single (hac.mono hR2)).snoc (hac2.mono hR2))
                refine rj_xk (by (first | exact Hp.le_refl _ | assumption | exact Hp.le_trans ‹_› ‹_›)) (by (repeat (first|exact zR _|(apply zP;focus (repeat (first|exact zH _|apply zT)))|apply zD|exact zA _ _))) ?_
                refine xj_rj rfl ?_
                try simp only [List.cons_append, List.nil_append, List.append_nil]
                refine rv0 rfl rfl rfl (y_build (cells := [_, _, _, _, _, _]) [(0, 1), (1, 3), (4, 1), (5, 1)] Try.underlying29 Try.zeroValue29 (fun _ => rfl) rfl rfl) ?_
                refine rj_xk (by (first | exact Hp.le_refl _ | assumption | exact Hp.le_trans ‹_› ‹_›)) (by (repeat (first|exact zR _|(apply zP;focus (repeat (first|exact zH _|apply zT)))|apply zD|exact zA _ _))) ?_
                refine xj_rj rfl ?_
                try simp only [List.cons_append, List.nil_append, List.append_nil]
                refine rj_buildSlice (sz := 6) (wn0 rfl) rfl Try.underlying27 Try.sizeOf29 Try.zeroValue29 rfl rfl rfl (by decide) (by decide) (fun bk2 => ?_)
                refine rj_xk (by (first | exact Hp.le_refl _ | assumption | exact Hp.le_trans ‹_› ‹_›)) (by (repeat (first|exact zR _|(apply zP;focus (repeat (first|exact zH _|apply zT)))|apply zD|exact zA _ _))) ?_
                refine xj_nil ?_
                try simp only [List.cons_append, List.nil_append, List.append_nil]
                refine rj_turn (A := slc 29 6 vp p.length css.flatten) (B := slc 29 6 (cutV vp 0 (p.length - 2) 6) (p.length - 2) (css.take (p.length - 2)).flatten) (by (repeat (first|exact zH _|apply zT));done) (fun h hh => by have := slc_cut (Nat.zero_le (p.length - 2)) (by omega) h hh; rw [Nat.zero_mul, List.drop_zero, Nat.sub_zero, ftake (n := 6) _ hP.els.len] at this; exact this) ?_
                refine rj_append (sz := 6) (by_ := 88) ⟨Try.underlying27, _, _, rfl, rfl, rfl, rfl, rfl⟩ (wn0 rfl) rfl rfl rfl (by (repeat (first|exact zH _|apply zT));done) (src_slc (xs := exC op.str Vl.zero [] (.slice (some ⟨bk, 0, none⟩) 2 2)) Try.underlying27 (by (repeat (first|exact zH _|apply zT));done) (RepX.one (R := R2) (x := .mk op Vl.zero [] [Ex.mk aop av an ak, Ex.mk aop2 av2 an2 ak2]) (RepX.of hkf))) rfl (by (first | omega | (dsimp only; omega) | (simp; done) | (simp; omega))) (by simp only [maxLen]; omega) (fun v144 ho144 hh144 => ?_)
                rw [flat_snoc, show p.length - 2 + 1 = (p.take (p.length - 2) ++ [Ex.mk op Vl.zero [] [Ex.mk aop av an ak, Ex.mk aop2 av2 an2 ak2]]).length by simp]
                refine rv0 rfl rfl rfl (y_assign rfl) ?_
                refine rj_nil ?_
                refine ej_join hJ26 ((v144, R2, p.take (p.length - 2) ++ [.mk op Vl.zero [] [Ex.mk aop av an ak, Ex.mk aop2 av2 an2 ak2]], css.take (p.length - 2) ++ [exC op.str Vl.zero [] (.slice (some ⟨bk, 0, none⟩) 2 2)])) (⟨Hp.le_trans hR1 hR2, by assumption, hP.over hR2 op 2 [Ex.mk aop av an ak, Ex.mk aop2 av2 an2 ak2] _ ha1.symm (by simp; exact ⟨ham, ham2⟩) hkf (by decide) (by omega)⟩) (eC rfl (eC rfl (eC rfl (eC rfl (eC rfl (eC rfl (eC rfl eN))))))) rfl (by (repeat (first|exact zR _|(apply zP;focus (repeat (first|exact zH _|apply zT)))|apply zD|exact zA _ _)))
               ·try simp only [dT, dF, nT, nF, tF, fT] at hc108
                refine cj_skip ?_
                refine ej_join hJ26 ((vp, R1, p, css)) (⟨hR1, hvo, hP.mono (Hp.le_refl _) (by omega)⟩) (eC rfl (eC rfl (eC rfl (eC rfl (eC rfl (eC rfl (eC rfl eN))))))) rfl (by (repeat (first|exact zR _|(apply zP;focus (repeat (first|exact zH _|apply zT)))|apply zD|exact zA _ _)))
              ·try simp only [dT, dF, nT, nF, tF, fT] at hg117
               refine rj_skip (wn2 rfl rfl rfl rfl rfl) rfl rfl ?_
               refine rj_skip (wn2 rfl rfl rfl rfl rfl) rfl rfl ?_
               refine rv0 rfl rfl rfl (y_pick_f rfl rfl) ?_
               refine rv0 rfl rfl rfl (y_assign rfl) ?_
               refine rj_nil ?_
               refine hK33 _ _ _ ?_
               refine cj_env (eL 2 rfl (eL 4 rfl (eL 5 rfl (eL 6 rfl (eL 8 rfl (eL 9 rfl (eL 16 rfl (eL 17 rfl (eL 18 rfl (eL 108 rfl eN)))))))))) ?_
               refine cj_cond_f rfl ?_
               refine cj_skip ?_
               refine ej_join hJ26 ((vp, R1, p, css)) (⟨hR1, hvo, hP.mono (Hp.le_refl _) (by omega)⟩) (eC rfl (eC rfl (eC rfl (eC rfl (eC rfl (eC rfl (eC rfl eN))))))) rfl (by (repeat (first|exact zR _|(apply zP;focus (repeat (first|exact zH _|apply zT)))|apply zD|exact zA _ _)))
             ·try simp only [dT, dF, nT, nF, tF, fT] at hg112
              refine rj_skip (wn2 rfl rfl rfl rfl rfl) rfl rfl ?_
              refine rj_skip (wn2 rfl rfl rfl rfl rfl) rfl rfl ?_
              refine rj_skip (wn2 rfl rfl rfl rfl rfl) rfl rfl ?_
              refine rv0 rfl rfl rfl (y_pick_f rfl rfl) ?_
              refine rv0 rfl rfl rfl (y_move rfl) ?_
              refine rj_skip (wn2 rfl rfl rfl rfl rfl) rfl rfl ?_
              refine rj_skip (wn2 rfl rfl rfl rfl rfl) rfl rfl ?_
              refine rv0 rfl rfl rfl (y_pick_f rfl rfl) ?_
              refine rv0 rfl rfl rfl (y_assign rfl) ?_
              refine rj_nil ?_
              refine hK33 _ _ _ ?_
              refine cj_env (eL 2 rfl (eL 4 rfl (eL 5 rfl (eL 6 rfl (eL 8 rfl (eL 9 rfl (eL 16 rfl (eL 17 rfl (eL 18 rfl (eL 108 rfl eN)))))))))) ?_
              refine cj_cond_f rfl ?_
              refine cj_skip ?_
              refine ej_join hJ26 ((vp, R1, p, css)) (⟨hR1, hvo, hP.mono (Hp.le_refl _) (by omega)⟩) (eC rfl (eC rfl (eC rfl (eC rfl (eC rfl (eC rfl (eC rfl eN))))))) rfl (by (repeat (first|exact zR _|(apply zP;focus (repeat (first|exact zH _|apply zT)))|apply zD|exact zA _ _)))
           ·try simp only [dT, dF, nT, nF, tF, fT] at hg87
            refine rj_skip (wn2 rfl rfl rfl rfl rfl) rfl rfl ?_
            refine rj_skip (wn2 rfl rfl rfl rfl rfl) rfl rfl ?_
            refine rv0 rfl rfl rfl (y_pick_f rfl rfl) ?_
            refine rv0 rfl rfl rfl (y_assign rfl) ?_
            refine rj_nil ?_
            refine hK31 _ _ _ ?_
            refine cj_env (eL 2 rfl (eL 4 rfl (eL 5 rfl (eL 6 rfl (eL 8 rfl (eL 9 rfl (eL 16 rfl (eL 17 rfl (eL 18 rfl (eL 78 rfl eN)))))))))) ?_
            refine cj_cond_f rfl ?_
            refine cj_seq (fun K35 hK35 => ?_)
            refine cj_region ?_
            refine rv0 rfl rfl rfl (y_fieldAddr (k := 0) Try.underlying71 rfl (n := 1) (by decide) Try.sizeOf3 rfl) ?_
            first | refine rv0 rfl rfl rfl (y_load ⟨Try.isAgg3, Try.sizeOf3⟩ rfl (by (repeat (first|exact zH _|apply zT));done) rfl) ?_ | refine rv0 rfl rfl rfl (y_load_slc ⟨Try.isAgg3, Try.sizeOf3⟩ rfl (by (repeat (first|exact zH _|apply zT));done) rfl) ?_
            refine rv0 rfl rfl rfl (y_geq rfl rfl) ?_
            refine rv0 rfl rfl rfl (y_move rfl) ?_
            refine rj_part 112 rfl (fun hg112 => ?_) (fun hg112 => ?_)
            ·try simp only [dT, dF, nT, nF, tF, fT] at hg112
             refine rj_val (wn1 rfl rfl rfl rfl) rfl rfl (y_fieldAddr (k := 0) Try.underlying71 rfl (n := 1) (by decide) Try.sizeOf3 rfl) ?_
             first | refine rj_val (wn1 rfl rfl rfl rfl) rfl rfl (y_load ⟨Try.isAgg3, Try.sizeOf3⟩ rfl (by (repeat (first|exact zH _|apply zT));done) rfl) ?_ | refine rj_val (wn1 rfl rfl rfl rfl) rfl rfl (y_load_slc ⟨Try.isAgg3, Try.sizeOf3⟩ rfl (by (repeat (first|exact zH _|apply zT));done) rfl) ?_
             refine rj_val (wn1 rfl rfl rfl rfl) rfl rfl (y_lss rfl rfl) ?_
             refine rv0 rfl rfl rfl (y_pick_t rfl rfl) ?_
             refine rv0 rfl rfl rfl (y_move rfl) ?_
             refine rj_part 117 rfl (fun hg117 => ?_) (fun hg117 => ?_)
             ·try simp only [dT, dF, nT, nF, tF, fT] at hg117
              refine rj_val (wn1 rfl rfl rfl rfl) rfl rfl (y_move rfl) ?_
              refine rj_val (wn1 rfl rfl rfl rfl) rfl rfl (y_gtr rfl rfl) ?_
              refine rv0 rfl rfl rfl (y_pick_t rfl rfl) ?_
              refine rv0 rfl rfl rfl (y_assign rfl) ?_
              refine rj_nil ?_
              refine hK35 _ _ _ ?_
              refine cj_env (eL 2 rfl (eL 4 rfl (eL 5 rfl (eL 6 rfl (eL 8 rfl (eL 9 rfl (eL 16 rfl (eL 17 rfl (eL 18 rfl (eL 108 rfl eN)))))))))) ?_
              refine cj_cond rfl (fun hc108 => ?_) (fun hc108 => ?_)
              ·try simp only [dT, dF, nT, nF, tF, fT] at hc108
               obtain ⟨op, ha1, hop⟩ := twos_nth (w := x.what) (by (try simp at hg112 hg117); omega)
               have hp0 : 1 < p.length := by (try simp at hc108); omega
               obtain ⟨a, ca, ham, hac, hax, hpart⟩ := pile_at hP.els (k := 2) (by decide) hp0
               obtain ⟨a2, ca2, ham2, hac2, hax2, hpart2⟩ := pile_at hP.els (k := 1) (by decide) (by omega)
               obtain ⟨aop, av, an, ak, avk, rfl, rfl, hka⟩ := hac.inv
               obtain ⟨aop2, av2, an2, ak2, avk2, rfl, rfl, hka2⟩ := hac2.inv
               refine cj_mixg (L := [blk b8 [.int .i64 x.what, .int .i64 x.n, .string (str x.s)] 71, slc 29 6 vp p.length css.flatten, slc 9 1 (.slice (some ⟨b4, 0, none⟩) 14 14) 14 ([[111, 114], [97, 110, 100], [61], [60, 62], [60], [60, 61], [62], [62, 61], [43], [45], [124, 124], [42], [47], [37]].map fun s => Value.string (str s))]) [0, 1, 2, 3, 4, 5, 6, 7, 8, 9, 10, 11, 12, 13, 14, 15, 16, 17, 18, 19] [20, 21, 22] [23, 24] _ (by (repeat (first|exact zR _|(apply zP;focus (repeat (first|exact zH _|apply zT)))|apply zD|exact zA _ _))) (by kernel_rfl) (by kernel_rfl) (by kernel_rfl) rfl ?_
               refine fj_val rfl rfl rfl (wn0 rfl) (fun R1 hR1 G => (y_move rfl)) ?_
               refine fj_val rfl rfl rfl (wn0 rfl) (fun R1 hR1 G => (y_move rfl)) ?_
               first | refine fj_val rfl rfl rfl (wn0 rfl) (fun R1 hR1 G => (y_sub64 rfl rfl (by (first | omega | (dsimp only; omega) | (simp; done) | (simp; omega))))) ?_ | refine fj_val rfl rfl rfl (wn0 rfl) (fun R1 hR1 G => (y_sub rfl rfl)) ?_
               refine fj_val rfl rfl rfl (wn0 rfl) (fun R1 hR1 G => (y_slice_slc (l := 0) (h := p.length - 2) Try.underlying27 Try.sizeOf29 rfl (by (repeat (first|exact zH _|apply zT));done) rfl ⟨.i64, by show some (Value.int .i64 ((p.length : Int) - 2)) = _; rw [Int.ofNat_sub (by omega)]; rfl⟩ (by omega))) ?_
               refine fj_val rfl rfl rfl (wn0 rfl) (fun R1 hR1 G => (y_move rfl)) ?_
               refine fj_val rfl rfl rfl (wn0 rfl) (fun R1 hR1 G => (y_fieldAddr (k := 0) Try.underlying71 rfl (n := 1) (by decide) Try.sizeOf3 rfl)) ?_
               first | refine fj_val rfl rfl rfl (wn0 rfl) (fun R1 hR1 G => (y_load ⟨Try.isAgg3, Try.sizeOf3⟩ rfl (by (repeat (first|exact zH _|apply zT));done) rfl)) ?_ | refine fj_val rfl rfl rfl (wn0 rfl) (fun R1 hR1 G => (y_load_slc ⟨Try.isAgg3, Try.sizeOf3⟩ rfl (by (repeat (first|exact zH _|apply zT));done) rfl)) ?_
               first | refine fj_val rfl rfl rfl (wn0 rfl) (fun R1 hR1 G => (y_sub64 rfl rfl (by (first | omega | (dsimp only; omega) | (simp; done) | (simp; omega))))) ?_ | refine fj_val rfl rfl rfl (wn0 rfl) (fun R1 hR1 G => (y_sub rfl rfl)) ?_
               refine fj_val rfl rfl rfl (wn0 rfl) (fun R1 hR1 G => (y_index_slc (sz := 1) (n := 14) Try.underlying68 Try.sizeOf9 rfl rfl (by (repeat (first|exact zH _|apply zT));done) (by (try simp at hg112 hg117); omega))) ?_
               refine fj_val rfl rfl rfl (wn0 rfl) (fun R1 hR1 G => (y_load_slc ⟨Try.isAgg9, Try.sizeOf9⟩ rfl (by (repeat (first|exact zH _|apply zT));done) hop)) ?_
               refine fj_val rfl rfl rfl (wn0 rfl) (fun R1 hR1 G => (y_move rfl)) ?_
               refine fj_val rfl rfl rfl (wn0 rfl) (fun R1 hR1 G => (y_move rfl)) ?_
               first | refine fj_val rfl rfl rfl (wn0 rfl) (fun R1 hR1 G => (y_sub64 rfl rfl (by (first | omega | (dsimp only; omega) | (simp; done) | (simp; omega))))) ?_ | refine fj_val rfl rfl rfl (wn0 rfl) (fun R1 hR1 G => (y_sub rfl rfl)) ?_
               refine fj_val rfl rfl rfl (wn0 rfl) (fun R1 hR1 G => (y_index_slc (sz := 6) (n := p.length) Try.underlying27 Try.sizeOf29 rfl rfl (by (repeat (first|exact zH _|apply zT));done) (by omega))) ?_
               refine fj_val rfl rfl rfl (wn0 rfl) (fun R1 hR1 G => (y_loads_slc ⟨Try.isAgg29, Try.sizeOf29⟩ rfl (by (repeat (first|exact zH _|apply zT));done) hpart rfl (by omega))) ?_
               refine fj_val rfl rfl rfl (wn0 rfl) (fun R1 hR1 G => (y_move rfl)) ?_
               refine fj_val rfl rfl rfl (wn0 rfl) (fun R1 hR1 G => (y_move rfl)) ?_
               first | refine fj_val rfl rfl rfl (wn0 rfl) (fun R1 hR1 G => (y_sub64 rfl rfl (by (first | omega | (dsimp only; omega) | (simp; done) | (simp; omega))))) ?_ | refine fj_val rfl rfl rfl (wn0 rfl) (fun R1 hR1 G => (y_sub rfl rfl)) ?_
               refine fj_val rfl rfl rfl (wn0 rfl) (fun R1 hR1 G => (y_index_slc (sz := 6) (n := p.length) Try.underlying27 Try.sizeOf29 rfl rfl (by (repeat (first|exact zH _|apply zT));done) (by omega))) ?_
               refine fj_val rfl rfl rfl (wn0 rfl) (fun R1 hR1 G => (y_loads_slc ⟨Try.isAgg29, Try.sizeOf29⟩ rfl (by (repeat (first|exact zH _|apply zT));done) hpart2 rfl (by omega))) ?_
               refine fj_nil ?_
               refine xj_rj rfl ?_
               try simp only [List.cons_append, List.nil_append, List.append_nil]
               refine rj_buildSlice (sz := 6) (wn0 rfl) rfl Try.underlying27 Try.sizeOf29 Try.zeroValue29 rfl rfl rfl (by decide) (by decide) (fun bk => ?_)
               refine rj_freeze (e := 29) (sz := 6) (n := 2) (v := .slice (some ⟨bk, 0, none⟩) 2 2) (xs := exC aop.str av an avk ++ exC aop2.str av2 an2 avk2) (by (repeat (first|exact zH _|apply zT));done) (fun R2 hR2 hfr hxl => ?_)
               have hkf : FrX exE R2 [Ex.mk aop av an ak, Ex.mk aop2 av2 an2 ak2] (.slice (some ⟨bk, 0, none⟩) 2 2) := FrozenS.frx (l := [Ex.mk aop av an ak, Ex.mk aop2 av2 an2 ak2]) (css := [exC aop.str av an avk, exC aop2.str av2 an2 avk2]) (by simpa using hfr) ((Els.single (hac.mono hR2)).snoc (hac2.mono hR2))
               refine rj_xk (by (first | exact Hp.le_refl _ | assumption | exact Hp.le_trans ‹_› ‹_›)) (by (repeat (first|exact zR _|(apply zP;focus (repeat (first|exact zH _|apply zT)))|apply zD|exact zA _ _))) ?_
               refine xj_rj rfl ?_
               try simp only [List.cons_append, List.nil_append, List.append_nil]
               refine rv0 rfl rfl rfl (y_build (cells := [_, _, _, _, _, _]) [(0, 1), (1, 3), (4, 1), (5, 1)] Try.underlying29 Try.zeroValue29 (fun _ => rfl) rfl rfl) ?_
               refine rj_xk (by (first | exact Hp.le_refl _ | assumption | exact Hp.le_trans ‹_› ‹_›)) (by (repeat (first|exact zR _|(apply zP;focus (repeat (first|exact zH _|apply zT)))|apply zD|exact zA _ _))) ?_
               refine xj_rj rfl ?_
               try simp only [List.cons_append, List.nil_append, List.append_nil]
               refine rj_buildSlice (sz := 6) (wn0 rfl) rfl Try.underlying27 Try.sizeOf29 Try.zeroValue29 rfl rfl rfl (by decide) (by decide) (fun bk2 => ?_)
               refine rj_xk (by (first | exact Hp.le_refl _ | assumption | exact Hp.le_trans ‹_› ‹_›)) (by (repeat (first|exact zR _|(apply zP;focus (repeat (first|exact zH _|apply zT)))|apply zD|exact zA _ _))) ?_
               refine xj_nil ?_
               try simp only [List.cons_append, List.nil_append, List.append_nil]
               refine rj_turn (A := slc 29 6 vp p.length css.flatten) (B := slc 29 6 (cutV vp 0 (p.length - 2) 6) (p.length - 2) (css.take (p.length - 2)).flatten) (by (repeat (first|exact zH _|apply zT));done) (fun h hh => by have := slc_cut (Nat.zero_le (p.length - 2)) (by omega) h hh; rw [Nat.zero_mul, List.drop_zero, Nat.sub_zero, ftake (n := 6) _ hP.els.len] at this; exact this) ?_
               refine rj_append (sz := 6) (by_ := 88) ⟨Try.underlying27, _, _, rfl, rfl, rfl, rfl, rfl⟩ (wn0 rfl) rfl rfl rfl (by (repeat (first|exact zH _|apply zT));done) (src_slc (xs := exC op.str Vl.zero [] (.slice (some ⟨bk, 0, none⟩) 2 2)) Try.underlying27 (by (repeat (first|exact zH _|apply zT));done) (RepX.one (R := R2) (x := .mk op Vl.zero [] [Ex.mk aop av an ak, Ex.mk aop2 av2 an2 ak2]) (RepX.of hkf))) rfl (by (first | omega | (dsimp only; omega) | (simp; done) | (simp; omega))) (by simp only [maxLen]; omega) (fun v144 ho144 hh144 => ?_)
               rw [flat_snoc, show p.length - 2 + 1 = (p.take (p.length - 2) ++ [Ex.mk op Vl.zero [] [Ex.mk aop av an ak, Ex.mk aop2 av2 an2 ak2]]).length by simp]
               refine rv0 rfl rfl rfl (y_assign rfl) ?_
               refine rj_nil ?_
               refine ej_join hJ26 ((v144, R2, p.take (p.length - 2) ++ [.mk op Vl.zero [] [Ex.mk aop av an ak, Ex.mk aop2 av2 an2 ak2]], css.take (p.length - 2) ++ [exC op.str Vl.zero [] (.slice (some ⟨bk, 0, none⟩) 2 2)])) (⟨Hp.le_trans hR1 hR2, by assumption, hP.over hR2 op 2 [Ex.mk aop av an ak, Ex.mk aop2 av2 an2 ak2] _ ha1.symm (by simp; exact ⟨ham, ham2⟩) hkf (by decide) (by omega)⟩) (eC rfl (eC rfl (eC rfl (eC rfl (eC rfl (eC rfl (eC rfl eN))))))) rfl (by (repeat (first|exact zR _|(apply zP;focus (repeat (first|exact zH _|apply zT)))|apply zD|exact zA _ _)))
              ·try simp only [dT, dF, nT, nF, tF, fT] at hc108
               refine cj_skip ?_
               refine ej_join hJ26 ((vp, R1, p, css)) (⟨hR1, hvo, hP.mono (Hp.le_refl _) (by omega)⟩) (eC rfl (eC rfl (eC rfl (eC rfl (eC rfl (eC rfl (eC rfl eN))))))) rfl (by (repeat (first|exact zR _|(apply zP;focus (repeat (first|exact zH _|apply zT)))|apply zD|exact zA _ _)))
             ·try simp only [dT, dF, nT, nF, tF, fT] at hg117
              refine rj_skip (wn2 rfl rfl rfl rfl rfl) rfl rfl ?_
              refine rj_skip (wn2 rfl rfl rfl rfl rfl) rfl rfl ?_
              refine rv0 rfl rfl rfl (y_pick_f rfl rfl) ?_
              refine rv0 rfl rfl rfl (y_assign rfl) ?_
              refine rj_nil ?_
              refine hK35 _ _ _ ?_
              refine cj_env (eL 2 rfl (eL 4 rfl (eL 5 rfl (eL 6 rfl (eL 8 rfl (eL 9 rfl (eL 16 rfl (eL 17 rfl (eL 18 rfl (eL 108 rfl eN)))))))))) ?_
              refine cj_cond_f rfl ?_
              refine cj_skip ?_
              refine ej_join hJ26 ((vp, R1, p, css)) (⟨hR1, hvo, hP.mono (Hp.le_refl _) (by omega)⟩) (eC rfl (eC rfl (eC rfl (eC rfl (eC rfl (eC rfl (eC rfl eN))))))) rfl (by (repeat (first|exact zR _|(apply zP;focus (repeat (first|exact zH _|apply zT)))|apply zD|exact zA _ _)))
            ·try simp only [dT, dF, nT, nF, tF, fT] at hg112
             refine rj_skip (wn2 rfl rfl rfl rfl rfl) rfl rfl ?_
             refine rj_skip (wn2 rfl rfl rfl rfl rfl) rfl rfl ?_
             refine rj_skip (wn2 rfl rfl rfl rfl rfl) rfl rfl ?_
             refine rv0 rfl rfl rfl (y_pick_f rfl rfl) ?_
             refine rv0 rfl rfl rfl (y_move rfl) ?_
             refine rj_skip (wn2 rfl rfl rfl rfl rfl) rfl rfl ?_
             refine rj_skip (wn2 rfl rfl rfl rfl rfl) rfl rfl ?_
             refine rv0 rfl rfl rfl (y_pick_f rfl rfl) ?_
             refine rv0 rfl rfl rfl (y_assign rfl) ?_
             refine rj_nil ?_
             refine hK35 _ _ _ ?_
             refine cj_env (eL 2 rfl (eL 4 rfl (eL 5 rfl (eL 6 rfl (eL 8 rfl (eL 9 rfl (eL 16 rfl (eL 17 rfl (eL 18 rfl (eL 108 rfl eN)))))))))) ?_
             refine cj_cond_f rfl ?_
             refine cj_skip ?_
             refine ej_join hJ26 ((vp, R1, p, css)) (⟨hR1, hvo, hP.mono (Hp.le_refl _) (by omega)⟩) (eC rfl (eC rfl (eC rfl (eC rfl (eC rfl (eC rfl (eC rfl eN))))))) rfl (by (repeat (first|exact zR _|(apply zP;focus (repeat (first|exact zH _|apply zT)))|apply zD|exact zA _ _)))
          ·try simp only [dT, dF, nT, nF, tF, fT] at hg82
           refine rj_skip (wn2 rfl rfl rfl rfl rfl) rfl rfl ?_
           refine rj_skip (wn2 rfl rfl rfl rfl rfl) rfl rfl ?_
           refine rj_skip (wn2 rfl rfl rfl rfl rfl) rfl rfl ?_
           refine rv0 rfl rfl rfl (y_pick_f rfl rfl) ?_
           refine rv0 rfl rfl rfl (y_move rfl) ?_
           refine rj_skip (wn2 rfl rfl rfl rfl rfl) rfl rfl ?_
           refine rj_skip (wn2 rfl rfl rfl rfl rfl) rfl rfl ?_
           refine rv0 rfl rfl rfl (y_pick_f rfl rfl) ?_
           refine rv0 rfl rfl rfl (y_assign rfl) ?_
           refine rj_nil ?_
           refine hK31 _ _ _ ?_
           refine cj_env (eL 2 rfl (eL 4 rfl (eL 5 rfl (eL 6 rfl (eL 8 rfl (eL 9 rfl (eL 16 rfl (eL 17 rfl (eL 18 rfl (eL 78 rfl eN)))))))))) ?_
           refine cj_cond_f rfl ?_
           refine cj_seq (fun K37 hK37 => ?_)
           refine cj_region ?_
           refine rv0 rfl rfl rfl (y_fieldAddr (k := 0) Try.underlying71 rfl (n := 1) (by decide) Try.sizeOf3 rfl) ?_
           first | refine rv0 rfl rfl rfl (y_load ⟨Try.isAgg3, Try.sizeOf3⟩ rfl (by (repeat (first|exact zH _|apply zT));done) rfl) ?_ | refine rv0 rfl rfl rfl (y_load_slc ⟨Try.isAgg3, Try.sizeOf3⟩ rfl (by (repeat (first|exact zH _|apply zT));done) rfl) ?_
           refine rv0 rfl rfl rfl (y_geq rfl rfl) ?_
           refine rv0 rfl rfl rfl (y_move rfl) ?_
           refine rj_part 112 rfl (fun hg112 => ?_) (fun hg112 => ?_)
           ·try simp only [dT, dF, nT, nF, tF, fT] at hg112
            refine rj_val (wn1 rfl rfl rfl rfl) rfl rfl (y_fieldAddr (k := 0) Try.underlying71 rfl (n := 1) (by decide) Try.sizeOf3 rfl) ?_
            first | refine rj_val (wn1 rfl rfl rfl rfl) rfl rfl (y_load ⟨Try.isAgg3, Try.sizeOf3⟩ rfl (by (repeat (first|exact zH _|apply zT));done) rfl) ?_ | refine rj_val (wn1 rfl rfl rfl rfl) rfl rfl (y_load_slc ⟨Try.isAgg3, Try.sizeOf3⟩ rfl (by (repeat (first|exact zH _|apply zT));done) rfl) ?_
            refine rj_val (wn1 rfl rfl rfl rfl) rfl rfl (y_lss rfl rfl) ?_
            refine rv0 rfl rfl rfl (y_pick_t rfl rfl) ?_
            refine rv0 rfl rfl rfl (y_move rfl) ?_
            refine rj_part 117 rfl (fun hg117 => ?_) (fun hg117 => ?_)
            ·try simp only [dT, dF, nT, nF, tF, fT] at hg117
             refine rj_val (wn1 rfl rfl rfl rfl) rfl rfl (y_move rfl) ?_
             refine rj_val (wn1 rfl rfl rfl rfl) rfl rfl (y_gtr rfl rfl) ?_
             refine rv0 rfl rfl rfl (y_pick_t rfl rfl) ?_
             refine rv0 rfl rfl rfl (y_assign rfl) ?_
             refine rj_nil ?_
             refine hK37 _ _ _ ?_
             refine cj_env (eL 2 rfl (eL 4 rfl (eL 5 rfl (eL 6 rfl (eL 8 rfl (eL 9 rfl (eL 16 rfl (eL 17 rfl (eL 18 rfl (eL 108 rfl eN)))))))))) ?_
             refine cj_cond rfl (fun hc108 => ?_) (fun hc108 => ?_)
             ·try simp only [dT, dF, nT, nF, tF, fT] at hc108
              obtain ⟨op, ha1, hop⟩ := twos_nth (w := x.what) (by (try simp at hg112 hg117); omega)
              have hp0 : 1 < p.length := by (try simp at hc108); omega
              obtain ⟨a, ca, ham, hac, hax, hpart⟩ := pile_at hP.els (k := 2) (by decide) hp0
              obtain ⟨a2, ca2, ham2, hac2, hax2, hpart2⟩ := pile_at hP.els (k := 1) (by decide) (by omega)
              obtain ⟨aop, av, an, ak, avk, rfl, rfl, hka⟩ := hac.inv
              obtain ⟨aop2, av2, an2, ak2, avk2, rfl, rfl, hka2⟩ := hac2.inv
              refine cj_mixg (L := [blk b8 [.int .i64 x.what, .int .i64 x.n, .string (str x.s)] 71, slc 29 6 vp p.length css.flatten, slc 9 1 (.slice (some ⟨b4, 0, none⟩) 14 14) 14 ([[111, 114], [97, 110, 100], [61], [60, 62], [60], [60, 61], [62], [62, 61], [43], [45], [124, 124], [42], [47], [37]].map fun s => Value.string (str s))]) [0, 1, 2, 3, 4, 5, 6, 7, 8, 9, 10, 11, 12, 13, 14, 15, 16, 17, 18, 19] [20, 21, 22] [23, 24] _ (by (repeat (first|exact zR _|(apply zP;focus (repeat (first|exact zH _|apply zT)))|apply zD|exact zA _ _))) (by kernel_rfl) (by kernel_rfl) (by kernel_rfl) rfl ?_
              refine fj_val rfl rfl rfl (wn0 rfl) (fun R1 hR1 G => (y_move rfl)) ?_
              refine fj_val rfl rfl rfl (wn0 rfl) (fun R1 hR1 G => (y_move rfl)) ?_
              first | refine fj_val rfl rfl rfl (wn0 rfl) (fun R1 hR1 G => (y_sub64 rfl rfl (by (first | omega | (dsimp only; omega) | (simp; done) | (simp; omega))))) ?_ | refine fj_val rfl rfl rfl (wn0 rfl) (fun R1 hR1 G => (y_sub rfl rfl)) ?_
              refine fj_val rfl rfl rfl (wn0 rfl) (fun R1 hR1 G => (y_slice_slc (l := 0) (h := p.length - 2) Try.underlying27 Try.sizeOf29 rfl (by (repeat (first|exact zH _|apply zT));done) rfl ⟨.i64, by show some (Value.int .i64 ((p.length : Int) - 2)) = _; rw [Int.ofNat_sub (by omega)]; rfl⟩ (by omega))) ?_
              refine fj_val rfl rfl rfl (wn0 rfl) (fun R1 hR1 G => (y_move rfl)) ?_
              refine fj_val rfl rfl rfl (wn0 rfl) (fun R1 hR1 G => (y_fieldAddr (k := 0) Try.underlying71 rfl (n := 1) (by decide) Try.sizeOf3 rfl)) ?_
              first | refine fj_val rfl rfl rfl (wn0 rfl) (fun R1 hR1 G => (y_load ⟨Try.isAgg3, Try.sizeOf3⟩ rfl (by (repeat (first|exact zH _|apply zT));done) rfl)) ?_ | refine fj_val rfl rfl rfl (wn0 rfl) (fun R1 hR1 G => (y_load_slc ⟨Try.isAgg3, Try.sizeOf3⟩ rfl (by (repeat (first|exact zH _|apply zT));done) rfl)) ?_
              first | refine fj_val rfl rfl rfl (wn0 rfl) (fun R1 hR1 G => (y_sub64 rfl rfl (by (first | omega | (dsimp only; omega) | (simp; done) | (simp; omega))))) ?_ | refine fj_val rfl rfl rfl (wn0 rfl) (fun R1 hR1 G => (y_sub rfl rfl)) ?_
              refine fj_val rfl rfl rfl (wn0 rfl) (fun R1 hR1 G => (y_index_slc (sz := 1) (n := 14) Try.underlying68 Try.sizeOf9 rfl rfl (by (repeat (first|exact zH _|apply zT));done) (by (try simp at hg112 hg117); omega))) ?_
              refine fj_val rfl rfl rfl (wn0 rfl) (fun R1 hR1 G => (y_load_slc ⟨Try.isAgg9, Try.sizeOf9⟩ rfl (by (repeat (first|exact zH _|apply zT));done) hop)) ?_
              refine fj_val rfl rfl rfl (wn0 rfl) (fun R1 hR1 G => (y_move rfl)) ?_
              refine fj_val rfl rfl rfl (wn0 rfl) (fun R1 hR1 G => (y_move rfl)) ?_
              first | refine fj_val rfl rfl rfl (wn0 rfl) (fun R1 hR1 G => (y_sub64 rfl rfl (by (first | omega | (dsimp only; omega) | (simp; done) | (simp; omega))))) ?_ | refine fj_val rfl rfl rfl (wn0 rfl) (fun R1 hR1 G => (y_sub rfl rfl)) ?_
              refine fj_val rfl rfl rfl (wn0 rfl) (fun R1 hR1 G => (y_index_slc (sz := 6) (n := p.length) Try.underlying27 Try.sizeOf29 rfl rfl (by (repeat (first|exact zH _|apply zT));done) (by omega))) ?_
              refine fj_val rfl rfl rfl (wn0 rfl) (fun R1 hR1 G => (y_loads_slc ⟨Try.isAgg29, Try.sizeOf29⟩ rfl (by (repeat (first|exact zH _|apply zT));done) hpart rfl (by omega))) ?_
              refine fj_val rfl rfl rfl (wn0 rfl) (fun R1 hR1 G => (y_move rfl)) ?_
              refine fj_val rfl rfl rfl (wn0 rfl) (fun R1 hR1 G => (y_move rfl)) ?_
              first | refine fj_val rfl rfl rfl (wn0 rfl) (fun R1 hR1 G => (y_sub64 rfl rfl (by (first | omega | (dsimp only; omega) | (simp; done) | (simp; omega))))) ?_ | refine fj_val rfl rfl rfl (wn0 rfl) (fun R1 hR1 G => (y_sub rfl rfl)) ?_
              refine fj_val rfl rfl rfl (wn0 rfl) (fun R1 hR1 G => (y_index_slc (sz := 6) (n := p.length) Try.underlying27 Try.sizeOf29 rfl rfl (by (repeat (first|exact zH _|apply zT));done) (by omega))) ?_
              refine fj_val rfl rfl rfl (wn0 rfl) (fun R1 hR1 G => (y_loads_slc ⟨Try.isAgg29, Try.sizeOf29⟩ rfl (by (repeat (first|exact zH _|apply zT));done) hpart2 rfl (by omega))) ?_
              refine fj_nil ?_
              refine xj_rj rfl ?_
              try simp only [List.cons_append, List.nil_append, List.append_nil]
              refine rj_buildSlice (sz := 6) (wn0 rfl) rfl Try.underlying27 Try.sizeOf29 Try.zeroValue29 rfl rfl rfl (by decide) (by decide) (fun bk => ?_)
              refine rj_freeze (e := 29) (sz := 6) (n := 2) (v := .slice (some ⟨bk, 0, none⟩) 2 2) (xs := exC aop.str av an avk ++ exC aop2.str av2 an2 avk2) (by (repeat (first|exact zH _|apply zT));done) (fun R2 hR2 hfr hxl => ?_)
              have hkf : FrX exE R2 [Ex.mk aop av an ak, Ex.mk aop2 av2 an2 ak2] (.slice (some ⟨bk, 0, none⟩) 2 2) := FrozenS.frx (l := [Ex.mk aop av an ak, Ex.mk aop2 av2 an2 ak2]) (css := [exC aop.str av an avk, exC aop2.str av2 an2 avk2]) (by simpa using hfr) ((Els.single (hac.mono hR2)).snoc (hac2.mono hR2))
              refine rj_xk (by (first | exact Hp.le_refl _ | assumption | exact Hp.le_trans ‹_› ‹_›)) (by (repeat (first|exact zR _|(apply zP;focus (repeat (first|exact zH _|apply zT)))|apply zD|exact zA _ _))) ?_
              refine xj_rj rfl ?_
              try simp only [List.cons_append, List.nil_append, List.append_nil]
              refine rv0 rfl rfl rfl (y_build (cells := [_, _, _, _, _, _]) [(0, 1), (1, 3), (4, 1), (5, 1)] Try.underlying29 Try.zeroValue29 (fun _ => rfl) rfl rfl) ?_
              refine rj_xk (by (first | exact Hp.le_refl _ | assumption | exact Hp.le_trans ‹_› ‹_›)) (by (repeat (first|exact zR _|(apply zP;focus (repeat (first|exact zH _|apply zT)))|apply zD|exact zA _ _))) ?_
              refine xj_rj rfl ?_
              try simp only [List.cons_append, List.nil_append, List.append_nil]
              refine rj_buildSlice (sz := 6) (wn0 rfl) rfl Try.underlying27 Try.sizeOf29 Try.zeroValue29 rfl rfl rfl (by decide) (by decide) (fun bk2 => ?_)
              refine rj_xk (by (first | exact Hp.le_refl _ | assumption | exact Hp.le_trans ‹_› ‹_›)) (by (repeat (first|exact zR _|(apply zP;focus (repeat (first|exact zH _|apply zT)))|apply zD|exact zA _ _))) ?_
              refine xj_nil ?_
              try simp only [List.cons_append, List.nil_append, List.append_nil]
              refine rj_turn (A := slc 29 6 vp p.length css.flatten) (B := slc 29 6 (cutV vp 0 (p.length - 2) 6) (p.length - 2) (css.take (p.length - 2)).flatten) (by (repeat (first|exact zH _|apply zT));done) (fun h hh => by have := slc_cut (Nat.zero_le (p.length - 2)) (by omega) h hh; rw [Nat.zero_mul, List.drop_zero, Nat.sub_zero, ftake (n := 6) _ hP.els.len] at this; exact this) ?_
              refine rj_append (sz := 6) (by_ := 88) ⟨Try.underlying27, _, _, rfl, rfl, rfl, rfl, rfl⟩ (wn0 rfl) rfl rfl rfl (by (repeat (first|exact zH _|apply zT));done) (src_slc (xs := exC op.str Vl.zero [] (.slice (some ⟨bk, 0, none⟩) 2 2)) Try.underlying27 (by (repeat (first|exact zH _|apply zT));done) (RepX.one (R := R2) (x := .mk op Vl.zero [] [Ex.mk aop av an ak, Ex.mk aop2 av2 an2 ak2]) (RepX.of hkf))) rfl (by (first | omega | (dsimp only; omega) | (simp; done) | (simp; omega))) (by simp only [maxLen]; omega) (fun v144 ho144 hh144 => ?_)
              rw [flat_snoc, show p.length - 2 + 1 = (p.take (p.length - 2) ++ [Ex.mk op Vl.zero [] [Ex.mk aop av an ak, Ex.mk aop2 av2 an2 ak2]]).length by simp]
              refine rv0 rfl rfl rfl (y_assign rfl) ?_
              refine rj_nil ?_
              refine ej_join hJ26 ((v144, R2, p.take (p.length - 2) ++ [.mk op Vl.zero [] [Ex.mk aop av an ak, Ex.mk aop2 av2 an2 ak2]], css.take (p.length - 2) ++ [exC op.str Vl.zero [] (.slice (some ⟨bk, 0, none⟩) 2 2)])) (⟨Hp.le_trans hR1 hR2, by assumption, hP.over hR2 op 2 [Ex.mk aop av an ak, Ex.mk aop2 av2 an2 ak2] _ ha1.symm (by simp; exact ⟨ham, ham2⟩) hkf (by decide) (by omega)⟩) (eC rfl (eC rfl (eC rfl (eC rfl (eC rfl (eC rfl (eC rfl eN))))))) rfl (by (repeat (first|exact zR _|(apply zP;focus (repeat (first|exact zH _|apply zT)))|apply zD|exact zA _ _)))
             ·try simp only [dT, dF, nT, nF, tF, fT] at hc108
              refine cj_skip ?_
              refine ej_join hJ26 ((vp, R1, p, css)) (⟨hR1, hvo, hP.mono (Hp.le_refl _) (by omega)⟩) (eC rfl (eC rfl (eC rfl (eC rfl (eC rfl (eC rfl (eC rfl eN))))))) rfl (by (repeat (first|exact zR _|(apply zP;focus (repeat (first|exact zH _|apply zT)))|apply zD|exact zA _ _)))
            ·try simp only [dT, dF, nT, nF, tF, fT] at hg117
             refine rj_skip (wn2 rfl rfl rfl rfl rfl) rfl rfl ?_
             refine rj_skip (wn2 rfl rfl rfl rfl rfl) rfl rfl ?_
             refine rv0 rfl rfl rfl (y_pick_f rfl rfl) ?_
             refine rv0 rfl rfl rfl (y_assign rfl) ?_
             refine rj_nil ?_
             refine hK37 _ _ _ ?_
             refine cj_env (eL 2 rfl (eL 4 rfl (eL 5 rfl (eL 6 rfl (eL 8 rfl (eL 9 rfl (eL 16 rfl (eL 17 rfl (eL 18 rfl (eL 108 rfl eN)))))))))) ?_
             refine cj_cond_f rfl ?_
             refine cj_skip ?_
             refine ej_join hJ26 ((vp, R1, p, css)) (⟨hR1, hvo, hP.mono (Hp.le_refl _) (by omega)⟩) (eC rfl (eC rfl (eC rfl (eC rfl (eC rfl (eC rfl (eC rfl eN))))))) rfl (by (repeat (first|exact zR _|(apply zP;focus (repeat (first|exact zH _|apply zT)))|apply zD|exact zA _ _)))
           ·try simp only [dT, dF, nT, nF, tF, fT] at hg112
            refine rj_skip (wn2 rfl rfl rfl rfl rfl) rfl rfl ?_
            refine rj_skip (wn2 rfl rfl rfl rfl rfl) rfl rfl ?_
            refine rj_skip (wn2 rfl rfl rfl rfl rfl) rfl rfl ?_
            refine rv0 rfl rfl rfl (y_pick_f rfl rfl) ?_
            refine rv0 rfl rfl rfl (y_move rfl) ?_
            refine rj_skip (wn2 rfl rfl rfl rfl rfl) rfl rfl ?_
            refine rj_skip (wn2 rfl rfl rfl rfl rfl) rfl rfl ?_
            refine rv0 rfl rfl rfl (y_pick_f rfl rfl) ?_
            refine rv0 rfl rfl rfl (y_assign rfl) ?_
            refine rj_nil ?_
            refine hK37 _ _ _ ?_
            refine cj_env (eL 2 rfl (eL 4 rfl (eL 5 rfl (eL 6 rfl (eL 8 rfl (eL 9 rfl (eL 16 rfl (eL 17 rfl (eL 18 rfl (eL 108 rfl eN)))))))))) ?_
            refine cj_cond_f rfl ?_
            refine cj_skip ?_
            refine ej_join hJ26 ((vp, R1, p, css)) (⟨hR1, hvo, hP.mono (Hp.le_refl _) (by omega)⟩) (eC rfl (eC rfl (eC rfl (eC rfl (eC rfl (eC rfl (eC rfl eN))))))) rfl (by (repeat (first|exact zR _|(apply zP;focus (repeat (first|exact zH _|apply zT)))|apply zD|exact zA _ _)))
   ·try simp only [dT, dF, nT, nF, tF, fT] at hc19
    refine cj_exit ?_
    refine hK9 _ _ _ ?_
    refine cj_env (eL 2 rfl (eL 6 rfl eN)) ?_
    refine cj_seq (fun K39 hK39 => ?_)
    refine cj_seq (fun K40 hK40 => ?_)
    refine cj_region ?_
    refine rv0 rfl rfl rfl (y_move rfl) ?_
    first | refine rv0 rfl rfl rfl (y_len_sl Try.underlying27 rfl) ?_ | refine rv0 rfl rfl rfl (y_len_slc Try.underlying27 rfl (by (repeat (first|exact zH _|apply zT));done)) ?_
    refine rv0 rfl rfl rfl (y_eql rfl rfl) ?_
    refine rj_nil ?_
    refine hK40 _ _ _ ?_
    refine cj_cond rfl (fun hc148 => ?_) (fun hc148 => ?_)
    ·try simp only [dT, dF, nT, nF, tF, fT] at hc148
     refine cj_seq (fun K42 hK42 => ?_)
     refine cj_region ?_
     refine rv0 rfl rfl rfl (y_build (cells := [_, _, _, _, _, _]) [(0, 1), (1, 3), (4, 1), (5, 1)] Try.underlying29 Try.zeroValue29 (fun _ => rfl) rfl rfl) ?_
     refine rj_stores ⟨Try.isAgg29, Try.sizeOf29⟩ rfl (wn0 rfl) rfl rfl (by (first | (simp [Value.oneCell']; done) | (intro u hu; simp only [List.mem_cons, List.not_mem_nil, or_false] at hu; rcases hu with rfl | rfl | rfl | rfl <;> first | rfl | assumption))) (by (repeat (first|exact zH _|apply zT));done) (by (simp)) rfl ?_
     refine rv0 rfl rfl rfl (y_assign rfl) ?_
     refine rj_nil ?_
     refine hK42 _ _ _ ?_
     refine cj_env (eL 2 rfl (eL 3 rfl eN)) ?_
     refine cj_ret ?_
     refine hret _ _ _ ?_
     apply ej_ret Try.results11 (.cons (rv_cells ⟨Try.isAgg29, Try.sizeOf29⟩ rfl (by (repeat (first|exact zH _|apply zT));done) rfl rfl) (.cons (rv_tmp rfl) .nil)) _ [] (by (first | exact Hp.le_refl _ | assumption | exact Hp.le_trans ‹_› ‹_›)) rfl
     case hp => exact ⟨rfl, _, false, rfl, rfl, zero_one, fun h => by cases h⟩
     case hS => (repeat (first|exact zR _|(apply zP;focus (repeat (first|exact zH _|apply zT)))|apply zD|exact zA _ _))
    ·try simp only [dT, dF, nT, nF, tF, fT] at hc148
     refine cj_skip ?_
     refine hK39 _ _ _ ?_
     refine cj_env (eL 2 rfl (eL 6 rfl eN)) ?_
     refine cj_seq (fun K43 hK43 => ?_)
     refine cj_region ?_
     obtain rfl : i = l.length := by (try simp at hc19); omega
     have hp0 : 0 < p.length := List.length_pos_iff.2 (by (try simp at hc148); exact hc148)
     obtain ⟨a, ca, ham, hac, hax, hpart⟩ := pile_at hP.els (k := 1) (by decide) hp0
     obtain ⟨aop, av, an, ak, avk, rfl, rfl, hka⟩ := hac.inv
     refine rv0 rfl rfl rfl (y_move rfl) ?_
     refine rv0 rfl rfl rfl (y_move rfl) ?_
     first | refine rv0 rfl rfl rfl (y_len_sl Try.underlying27 rfl) ?_ | refine rv0 rfl rfl rfl (y_len_slc Try.underlying27 rfl (by (repeat (first|exact zH _|apply zT));done)) ?_
     first | refine rv0 rfl rfl rfl (y_sub64 rfl rfl (by (first | omega | (dsimp only; omega) | (simp; done) | (simp; omega)))) ?_ | refine rv0 rfl rfl rfl (y_sub rfl rfl) ?_
     refine rv0 rfl rfl rfl ((y_index_slc (sz := 6) (n := p.length) Try.underlying27 Try.sizeOf29 rfl rfl (by (repeat (first|exact zH _|apply zT));done) (by omega))) ?_
     refine rv0 rfl rfl rfl ((y_loads_slc ⟨Try.isAgg29, Try.sizeOf29⟩ rfl (by (repeat (first|exact zH _|apply zT));done) hpart rfl (by omega))) ?_
     refine rj_stores_all (vs := exC aop.str av an avk) ⟨Try.isAgg29, Try.sizeOf29⟩ rfl (wn0 rfl) rfl rfl hac.one (by (repeat (first|exact zH _|apply zT));done) rfl ?_
     refine rv0 rfl rfl rfl (y_assign rfl) ?_
     refine rj_nil ?_
     refine hK43 _ _ _ ?_
     refine cj_env (eL 2 rfl (eL 3 rfl eN)) ?_
     refine cj_ret ?_
     refine hret _ _ _ ?_
     apply ej_ret Try.results11 (.cons (rv_cells ⟨Try.isAgg29, Try.sizeOf29⟩ rfl (by (repeat (first|exact zH _|apply zT));done) rfl rfl) (.cons (rv_tmp rfl) .nil)) _ [] (by (first | exact Hp.le_refl _ | assumption | exact Hp.le_trans ‹_› ‹_›)) rfl
     case hp => exact ⟨rfl, _, true, rfl, hac.len, hac.one, fun _ => ⟨_, hP.wf _ ham, hac⟩⟩
     case hS => (repeat (first|exact zR _|(apply zP;focus (repeat (first|exact zH _|apply zT)))|apply zD|exact zA _ _))
end V
end Go.Proofs.Ytghgifgmacapcaa
