/- Small acts. -/
import Derived.Test.YtcgjlhhfldkdaaaT8h
set_option linter.unusedSimpArgs false
set_option linter.unusedVariables false
set_option maxRecDepth 100000
namespace Go.Proofs.Ytcgjlhhfldkdaaa
open Go.RowKit
namespace V
set_option maxHeartbeats 4000000
def actC (v : Value) : List Value := [.int .i64 0, .int .i64 0, .int .u64 0, .int .u64 0, .bool false, v, .string (str []), .int .i64 0]
theorem actC_one {v : Value} (hv : v.oneCell' = true) : ∀ u ∈ actC v, u.oneCell' = true := by
  intro u hu
  simp only [actC, List.mem_cons, List.not_mem_nil, or_false] at hu
  rcases hu with rfl | rfl | rfl | rfl | rfl | rfl | rfl | rfl <;> first | rfl | assumption
def actE : Elt (List Ent) where
  P := fun R l cs => ∃ v, cs = actC v ∧ FrX entE R l v
  sz := 8
  mono := fun hR ⟨v, h1, h2⟩ => ⟨v, h1, h2.mono hR⟩
  len := fun ⟨v, h1, _⟩ => by subst h1; rfl
  one := fun ⟨v, h1, h2⟩ => by subst h1; exact actC_one h2.one
def smallA (l : List Ent) : Prop := l.length ≤ 10 ∧ ∀ e ∈ l, e.2.length ≤ 100
theorem small_succ {α : Type} {p : α → Prop} {l : List α} {i : Nat} {x : α} (h : ∀ y ∈ l.take i, p y) (hx : l[i]? = some x) (hp : p x) : ∀ y ∈ l.take (i + 1), p y := fun y hy => by
  rw [List.take_add_one, hx] at hy
  simp only [Option.toList_some, List.mem_append, List.mem_cons, List.not_mem_nil, or_false] at hy
  rcases hy with hy | rfl
  · exact h y hy
  · exact hp
theorem small_t {R : Hp} (va : Value) (acts : List (List Ent)) (hva : FrX actE R acts va) (n : Int) : Tri Try.prog 5 [va, .int .i64 n] R []
    (fun x R' L' => (∃ s, x = .bool s ∧ (s = true → ∀ l ∈ acts, smallA l)) ∧ L' = []) := by
  obtain ⟨q, cap, rfl, hq1, hq2⟩ := hva.shape
  unfold maxLen at hq2
  refine tri_of Try.func5 rfl Try.ntmps5 rfl (fun σ F Q hret hend hpan => ?_)
  try simp only [List.cons_append, List.nil_append]
  refine cj_env (eL 0 rfl (eL 1 rfl eN)) ?_
  refine cj_seq (fun K1 hK1 => ?_)
  refine cj_region ?_
  refine rv0 rfl rfl rfl (y_assign rfl) ?_
  refine rj_nil ?_
  refine hK1 _ _ _ ?_
  refine cj_seq (fun K2 hK2 => ?_)
  refine cj_seq (fun K3 hK3 => ?_)
  refine cj_region ?_
  refine rv0 rfl rfl rfl (y_move rfl) ?_
  first | refine rv0 rfl rfl rfl (y_len_sl Try.underlying28 rfl) ?_ | refine rv0 rfl rfl rfl (y_len_slc Try.underlying28 rfl (by (repeat (first|exact zH _|apply zT));done)) ?_
  refine rv0 rfl rfl rfl (y_move rfl) ?_
  refine rv0 rfl rfl rfl (y_gtr rfl rfl) ?_
  refine rj_nil ?_
  refine hK3 _ _ _ ?_
  refine cj_env (eL 0 rfl (eL 12 rfl eN)) ?_
  refine cj_cond rfl (fun hc12 => ?_) (fun hc12 => ?_)
  ·try simp only [dT, dF, nT, nF, tF, fT] at hc12
   refine cj_seq (fun K5 hK5 => ?_)
   refine cj_region ?_
   refine rv0 rfl rfl rfl (y_assign rfl) ?_
   refine rj_nil ?_
   refine hK5 _ _ _ ?_
   refine cj_ret ?_
   refine hret _ _ _ ?_
   apply ej_ret Try.results5 (.cons (rv_tmp rfl) .nil) _ [] (by (first | exact Hp.le_refl _ | assumption | exact Hp.le_trans ‹_› ‹_›)) rfl
   case hp => exact ⟨⟨false, rfl, fun h => by cases h⟩, rfl⟩
   case hS => (repeat (first|exact zR _|(apply zP;focus (repeat (first|exact zH _|apply zT)))|apply zD|exact zA _ _))
  ·try simp only [dT, dF, nT, nF, tF, fT] at hc12
   refine cj_skip ?_
   refine hK2 _ _ _ ?_
   refine cj_seq (fun K6 hK6 => ?_)
   refine cj_seq (fun K7 hK7 => ?_)
   refine cj_region ?_
   refine rv0 rfl rfl rfl (y_move rfl) ?_
   first | refine rv0 rfl rfl rfl (y_len_sl Try.underlying28 rfl) ?_ | refine rv0 rfl rfl rfl (y_len_slc Try.underlying28 rfl (by (repeat (first|exact zH _|apply zT));done)) ?_
   refine rv0 rfl rfl rfl (y_move rfl) ?_
   refine rj_nil ?_
   refine hK7 _ _ _ ?_
   refine cj_block ?_
   refine cj_env (E' := (fun (x1 : Nat) => [(13, .slice q acts.length cap), (14, .int .i64 (acts.length : Int)), (15, .int .i64 (x1 : Int))]) 0) (eC rfl (eC rfl (eC rfl eN))) ?_
   refine cj_sub (M := (fun (x1 : Nat) => F) 0) (by (repeat (first|exact zR _|(apply zP;focus (repeat (first|exact zH _|apply zT)))|apply zD|exact zA _ _))) ?_
   refine cj_loop (fun (x1 : Nat) => [(13, .slice q acts.length cap), (14, .int .i64 (acts.length : Int)), (15, .int .i64 (x1 : Int))]) (fun (x1 : Nat) => R) (fun (x1 : Nat) => F) (fun (x1 : Nat) => x1 ≤ acts.length ∧ ∀ l ∈ acts.take x1, smallA l) (fun (x1 : Nat) => acts.length - x1) 0 (⟨by simp, fun l hl => by simp at hl⟩) ?_
   rintro i ⟨hi, hs⟩
   try dsimp only
   refine cj_seq (fun K8 hK8 => ?_)
   refine cj_region ?_
   refine rv0 rfl rfl rfl (y_lss rfl rfl) ?_
   refine rj_nil ?_
   refine hK8 _ _ _ ?_
   refine cj_seq (fun K9 hK9 => ?_)
   refine cj_cond rfl (fun hc16 => ?_) (fun hc16 => ?_)
   ·try simp only [dT, dF, nT, nF, tF, fT] at hc16
    refine cj_skip ?_
    refine hK9 _ _ _ ?_
    refine cj_seq (fun K11 hK11 => ?_)
    refine cj_block ?_
    refine cj_seq (fun K12 hK12 => ?_)
    refine cj_region ?_
    have hi2 : i < acts.length := by (try simp at hc16); omega
    obtain ⟨l, ha⟩ : ∃ x, acts[i]? = some x := ⟨_, List.getElem?_eq_getElem hi2⟩
    obtain ⟨be, oe, ce, cse, hee, ⟨vl, rfl, hvl⟩, _, hcell⟩ := hva.at ha
    obtain ⟨rfl, rfl⟩ : q = some ⟨be, oe, none⟩ ∧ cap = ce := by cases hee; exact ⟨rfl, rfl⟩
    obtain ⟨ql, cl, rfl, hl1, hl2⟩ := hvl.shape
    unfold maxLen at hl2
    first | refine rv0 rfl rfl rfl (y_indexAddr Try.underlying28 Try.sizeOf27 rfl rfl (by (first | omega | (dsimp only; omega) | (simp; done) | (simp; omega)))) ?_ | refine rv0 rfl rfl rfl (y_index_slc Try.underlying28 Try.sizeOf27 rfl rfl (by (repeat (first|exact zH _|apply zT));done) (by (first | omega | (dsimp only; omega) | (simp; done) | (simp; omega)))) ?_
    refine rv0 rfl rfl rfl ((y_loads_ro ⟨Try.isAgg27, Try.sizeOf27⟩ (vs := [.int .i64 0, .int .i64 0, .int .u64 0, .int .u64 0, .bool false, .slice ql l.length cl, .string (str []), .int .i64 0]) rfl rfl (fun j u hj => hcell j u hj))) ?_
    refine rj_alloc (wn0 rfl) rfl Try.zeroValue27 rfl (fun b6 => ?_)
    refine rj_stores_all (vs := [.int .i64 0, .int .i64 0, .int .u64 0, .int .u64 0, .bool false, .slice ql l.length cl, .string (str []), .int .i64 0]) ⟨Try.isAgg27, Try.sizeOf27⟩ rfl (wn0 rfl) rfl rfl (actC_one hvl.one) (by (repeat (first|exact zH _|apply zT));done) rfl ?_
    refine rj_nil ?_
    refine hK12 _ _ _ ?_
    refine cj_env (eL 6 rfl (eL 13 rfl (eL 14 rfl (eL 15 rfl eN)))) ?_
    refine cj_seq (fun K13 hK13 => ?_)
    refine cj_seq (fun K14 hK14 => ?_)
    refine cj_region ?_
    refine rv0 rfl rfl rfl (y_fieldAddr (k := 5) Try.underlying27 rfl (n := 1) (by decide) Try.sizeOf22 rfl) ?_
    first | refine rv0 rfl rfl rfl (y_load ⟨Try.isAgg22, Try.sizeOf22⟩ rfl (by (repeat (first|exact zH _|apply zT));done) rfl) ?_ | refine rv0 rfl rfl rfl (y_load_slc ⟨Try.isAgg22, Try.sizeOf22⟩ rfl (by (repeat (first|exact zH _|apply zT));done) rfl) ?_
    first | refine rv0 rfl rfl rfl (y_len_sl Try.underlying22 rfl) ?_ | refine rv0 rfl rfl rfl (y_len_slc Try.underlying22 rfl (by (repeat (first|exact zH _|apply zT));done)) ?_
    refine rv0 rfl rfl rfl (y_gtr rfl rfl) ?_
    refine rv0 rfl rfl rfl (y_move rfl) ?_
    refine rj_part 23 rfl (fun hg23 => ?_) (fun hg23 => ?_)
    ·try simp only [dT, dF, nT, nF, tF, fT] at hg23
     refine rj_skip (wn2 rfl rfl rfl rfl rfl) rfl rfl ?_
     refine rj_skip (wn2 rfl rfl rfl rfl rfl) rfl rfl ?_
     refine rj_skip (wn2 rfl rfl rfl rfl rfl) rfl rfl ?_
     refine rj_skip (wn2 rfl rfl rfl rfl rfl) rfl rfl ?_
     refine rv0 rfl rfl rfl (y_pick_t rfl rfl) ?_
     refine rj_nil ?_
     refine hK14 _ _ _ ?_
     refine cj_env (eL 6 rfl (eL 13 rfl (eL 14 rfl (eL 15 rfl (eL 28 rfl eN))))) ?_
     refine cj_cond_t rfl ?_
     refine cj_seq (fun K15 hK15 => ?_)
     refine cj_region ?_
     refine rv0 rfl rfl rfl (y_assign rfl) ?_
     refine rj_nil ?_
     refine hK15 _ _ _ ?_
     refine cj_env (eL 4 rfl eN) ?_
     refine cj_ret ?_
     refine hret _ _ _ ?_
     apply ej_ret Try.results5 (.cons (rv_tmp rfl) .nil) _ [] (by (first | exact Hp.le_refl _ | assumption | exact Hp.le_trans ‹_› ‹_›)) rfl
     case hp => exact ⟨⟨false, rfl, fun h => by cases h⟩, rfl⟩
     case hS => (repeat (first|exact zR _|(apply zP;focus (repeat (first|exact zH _|apply zT)))|apply zD|exact zA _ _))
    ·have hl10 : l.length ≤ 10 := by (try simp at hg23); omega
     refine rj_val (wn1 rfl rfl rfl rfl) rfl rfl (y_fieldAddr (k := 6) Try.underlying27 rfl (n := 1) (by decide) Try.sizeOf9 rfl) ?_
     first | refine rj_val (wn1 rfl rfl rfl rfl) rfl rfl (y_load ⟨Try.isAgg9, Try.sizeOf9⟩ rfl (by (repeat (first|exact zH _|apply zT));done) rfl) ?_ | refine rj_val (wn1 rfl rfl rfl rfl) rfl rfl (y_load_slc ⟨Try.isAgg9, Try.sizeOf9⟩ rfl (by (repeat (first|exact zH _|apply zT));done) rfl) ?_
     refine rj_val (wn1 rfl rfl rfl rfl) rfl rfl (y_slen Try.underlying9 rfl) ?_
     refine rj_val (wn1 rfl rfl rfl rfl) rfl rfl (y_gtr rfl rfl) ?_
     refine rv0 rfl rfl rfl (y_pick_f rfl rfl) ?_
     refine rj_nil ?_
     refine hK14 _ _ _ ?_
     refine cj_env (eL 6 rfl (eL 13 rfl (eL 14 rfl (eL 15 rfl (eL 28 rfl eN))))) ?_
     refine cj_cond rfl (fun hc28 => ?_) (fun hc28 => ?_)
     ·try simp only [dT, dF, nT, nF, tF, fT] at hc28
      refine cj_seq (fun K17 hK17 => ?_)
      refine cj_region ?_
      refine rv0 rfl rfl rfl (y_assign rfl) ?_
      refine rj_nil ?_
      refine hK17 _ _ _ ?_
      refine cj_env (eL 4 rfl eN) ?_
      refine cj_ret ?_
      refine hret _ _ _ ?_
      apply ej_ret Try.results5 (.cons (rv_tmp rfl) .nil) _ [] (by (first | exact Hp.le_refl _ | assumption | exact Hp.le_trans ‹_› ‹_›)) rfl
      case hp => exact ⟨⟨false, rfl, fun h => by cases h⟩, rfl⟩
      case hS => (repeat (first|exact zR _|(apply zP;focus (repeat (first|exact zH _|apply zT)))|apply zD|exact zA _ _))
     ·try simp only [dT, dF, nT, nF, tF, fT] at hc28
      refine cj_skip ?_
      refine hK13 _ _ _ ?_
      refine cj_seq (fun K18 hK18 => ?_)
      refine cj_region ?_
      refine rv0 rfl rfl rfl (y_fieldAddr (k := 5) Try.underlying27 rfl (n := 1) (by decide) Try.sizeOf22 rfl) ?_
      first | refine rv0 rfl rfl rfl (y_load ⟨Try.isAgg22, Try.sizeOf22⟩ rfl (by (repeat (first|exact zH _|apply zT));done) rfl) ?_ | refine rv0 rfl rfl rfl (y_load_slc ⟨Try.isAgg22, Try.sizeOf22⟩ rfl (by (repeat (first|exact zH _|apply zT));done) rfl) ?_
      first | refine rv0 rfl rfl rfl (y_len_sl Try.underlying22 rfl) ?_ | refine rv0 rfl rfl rfl (y_len_slc Try.underlying22 rfl (by (repeat (first|exact zH _|apply zT));done)) ?_
      refine rv0 rfl rfl rfl (y_move rfl) ?_
      refine rj_nil ?_
      refine hK18 _ _ _ ?_
      refine cj_env (eL 13 rfl (eL 14 rfl (eL 15 rfl (eL 30 rfl (eL 31 rfl (eL 32 rfl eN)))))) ?_
      refine cj_block ?_
      refine cj_env (E' := (fun (x2 : Nat) => [(13, .slice (some ⟨be, oe, none⟩) acts.length cap), (14, .int .i64 (acts.length : Int)), (15, .int .i64 (i : Int)), (30, .slice ql l.length cl), (31, .int .i64 (l.length : Int)), (32, .int .i64 (x2 : Int))]) 0) (eC rfl (eC rfl (eC rfl (eC rfl (eC rfl (eC rfl eN)))))) ?_
      refine cj_sub (M := (fun (x2 : Nat) => F) 0) (by (repeat (first|exact zR _|(apply zP;focus (repeat (first|exact zH _|apply zT)))|apply zD|exact zA _ _))) ?_
      refine cj_loop (fun (x2 : Nat) => [(13, .slice (some ⟨be, oe, none⟩) acts.length cap), (14, .int .i64 (acts.length : Int)), (15, .int .i64 (i : Int)), (30, .slice ql l.length cl), (31, .int .i64 (l.length : Int)), (32, .int .i64 (x2 : Int))]) (fun (x2 : Nat) => R) (fun (x2 : Nat) => F) (fun (x2 : Nat) => x2 ≤ l.length ∧ ∀ e ∈ l.take x2, e.2.length ≤ 100) (fun (x2 : Nat) => l.length - x2) 0 (⟨by simp, fun l hl => by simp at hl⟩) ?_
      rintro j ⟨hj, hs2⟩
      try dsimp only
      refine cj_seq (fun K19 hK19 => ?_)
      refine cj_region ?_
      refine rv0 rfl rfl rfl (y_lss rfl rfl) ?_
      refine rj_nil ?_
      refine hK19 _ _ _ ?_
      refine cj_seq (fun K20 hK20 => ?_)
      refine cj_cond rfl (fun hc33 => ?_) (fun hc33 => ?_)
      ·try simp only [dT, dF, nT, nF, tF, fT] at hc33
       refine cj_skip ?_
       refine hK20 _ _ _ ?_
       refine cj_seq (fun K22 hK22 => ?_)
       refine cj_block ?_
       refine cj_seq (fun K23 hK23 => ?_)
       refine cj_region ?_
       have hj2 : j < l.length := by (try simp at hc33); omega
       obtain ⟨e, he⟩ : ∃ x, l[j]? = some x := ⟨_, List.getElem?_eq_getElem hj2⟩
       obtain ⟨b3, o3, c3, cs3, he3, rfl, _, hcell3⟩ := hvl.at he
       obtain ⟨rfl, rfl⟩ : ql = some ⟨b3, o3, none⟩ ∧ cl = c3 := by cases he3; exact ⟨rfl, rfl⟩
       first | refine rv0 rfl rfl rfl (y_indexAddr Try.underlying22 Try.sizeOf37 rfl rfl (by (first | omega | (dsimp only; omega) | (simp; done) | (simp; omega)))) ?_ | refine rv0 rfl rfl rfl (y_index_slc Try.underlying22 Try.sizeOf37 rfl rfl (by (repeat (first|exact zH _|apply zT));done) (by (first | omega | (dsimp only; omega) | (simp; done) | (simp; omega)))) ?_
       refine rv0 rfl rfl rfl ((y_loads_ro ⟨Try.isAgg37, Try.sizeOf37⟩ (vs := entC e) rfl rfl (fun j u hj => hcell3 j u hj))) ?_
       refine rj_alloc (wn0 rfl) rfl Try.zeroValue37 rfl (fun b8 => ?_)
       refine rj_stores_all (vs := entC e) ⟨Try.isAgg37, Try.sizeOf37⟩ rfl (wn0 rfl) rfl rfl (entE.one (R := R) (x := e) rfl) (by (repeat (first|exact zH _|apply zT));done) rfl ?_
       refine rj_nil ?_
       refine hK23 _ _ _ ?_
       refine cj_env (eL 8 rfl (eL 13 rfl (eL 14 rfl (eL 15 rfl (eL 30 rfl (eL 31 rfl (eL 32 rfl eN))))))) ?_
       refine cj_seq (fun K24 hK24 => ?_)
       refine cj_region ?_
       refine rv0 rfl rfl rfl (y_fieldAddr (k := 1) Try.underlying37 rfl (n := 1) (by decide) Try.sizeOf9 rfl) ?_
       first | refine rv0 rfl rfl rfl (y_load ⟨Try.isAgg9, Try.sizeOf9⟩ rfl (by (repeat (first|exact zH _|apply zT));done) rfl) ?_ | refine rv0 rfl rfl rfl (y_load_slc ⟨Try.isAgg9, Try.sizeOf9⟩ rfl (by (repeat (first|exact zH _|apply zT));done) rfl) ?_
       refine rv0 rfl rfl rfl (y_slen Try.underlying9 rfl) ?_
       refine rv0 rfl rfl rfl (y_gtr rfl rfl) ?_
       refine rj_nil ?_
       refine hK24 _ _ _ ?_
       refine cj_env (eL 13 rfl (eL 14 rfl (eL 15 rfl (eL 30 rfl (eL 31 rfl (eL 32 rfl (eL 39 rfl eN))))))) ?_
       refine cj_cond rfl (fun hc39 => ?_) (fun hc39 => ?_)
       ·try simp only [dT, dF, nT, nF, tF, fT] at hc39
        refine cj_seq (fun K26 hK26 => ?_)
        refine cj_region ?_
        refine rv0 rfl rfl rfl (y_assign rfl) ?_
        refine rj_nil ?_
        refine hK26 _ _ _ ?_
        refine cj_env (eL 4 rfl eN) ?_
        refine cj_ret ?_
        refine hret _ _ _ ?_
        apply ej_ret Try.results5 (.cons (rv_tmp rfl) .nil) _ [] (by (first | exact Hp.le_refl _ | assumption | exact Hp.le_trans ‹_› ‹_›)) rfl
        case hp => exact ⟨⟨false, rfl, fun h => by cases h⟩, rfl⟩
        case hS => (repeat (first|exact zR _|(apply zP;focus (repeat (first|exact zH _|apply zT)))|apply zD|exact zA _ _))
       ·try simp only [dT, dF, nT, nF, tF, fT] at hc39
        refine cj_skip ?_
        refine hK22 _ _ _ ?_
        refine cj_region ?_
        first | refine rv0 rfl rfl rfl (y_add64 rfl rfl (by (first | omega | (dsimp only; omega) | (simp; done) | (simp; omega)))) ?_ | refine rv0 rfl rfl rfl (y_add rfl rfl) ?_
        refine rv0 rfl rfl rfl (y_move rfl) ?_
        refine rj_nil ?_
        refine ej_on (q' := roundK _ _ _ _ _ _ _) rfl ?_
        refine ej_round (j + 1) (⟨by omega, small_succ hs2 he (by (try simp at hc39); omega)⟩) (by omega) (eC rfl (eC rfl (eC rfl (eC rfl (eC rfl (eC rfl eN)))))) rfl (by (repeat (first|exact zR _|(apply zP;focus (repeat (first|exact zH _|apply zT)))|apply zD|exact zA _ _)))
      ·try simp only [dT, dF, nT, nF, tF, fT] at hc33
       refine cj_exit ?_
       refine hK11 _ _ _ ?_
       refine cj_env (eL 13 rfl (eL 14 rfl (eL 15 rfl eN))) ?_
       refine cj_region ?_
       first | refine rv0 rfl rfl rfl (y_add64 rfl rfl (by (first | omega | (dsimp only; omega) | (simp; done) | (simp; omega)))) ?_ | refine rv0 rfl rfl rfl (y_add rfl rfl) ?_
       refine rv0 rfl rfl rfl (y_move rfl) ?_
       refine rj_nil ?_
       refine ej_on (q' := roundK _ _ _ _ _ _ _) rfl ?_
       refine ej_round (i + 1) (⟨by omega, small_succ hs ha ⟨hl10, by rw [List.take_of_length_le (by omega)] at hs2; exact hs2⟩⟩) (by omega) (eC rfl (eC rfl (eC rfl eN))) rfl (by (repeat (first|exact zR _|(apply zP;focus (repeat (first|exact zH _|apply zT)))|apply zD|exact zA _ _)))
   ·try simp only [dT, dF, nT, nF, tF, fT] at hc16
    refine cj_exit ?_
    refine hK6 _ _ _ ?_
    refine cj_env eN ?_
    refine cj_seq (fun K27 hK27 => ?_)
    refine cj_region ?_
    refine rv0 rfl rfl rfl (y_assign rfl) ?_
    refine rj_nil ?_
    refine hK27 _ _ _ ?_
    refine cj_ret ?_
    refine hret _ _ _ ?_
    apply ej_ret Try.results5 (.cons (rv_tmp rfl) .nil) _ [] (by (first | exact Hp.le_refl _ | assumption | exact Hp.le_trans ‹_› ‹_›)) rfl
    case hp => exact ⟨⟨true, rfl, fun _ => by rw [List.take_of_length_le (by (try simp at hc16); omega)] at hs; exact hs⟩, rfl⟩
    case hS => (repeat (first|exact zR _|(apply zP;focus (repeat (first|exact zH _|apply zT)))|apply zD|exact zA _ _))
end V
end Go.Proofs.Ytcgjlhhfldkdaaa
