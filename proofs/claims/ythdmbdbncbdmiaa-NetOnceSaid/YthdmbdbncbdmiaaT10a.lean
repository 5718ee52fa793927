/- The program's net, walked. -/
import Derived.Test.YthdmbdbncbdmiaaTMp
set_option linter.unusedSimpArgs false
set_option linter.unusedVariables false
set_option maxRecDepth 100000
namespace Go.Proofs.Ythdmbdbncbdmiaa
open Go.RowKit
namespace V
set_option maxHeartbeats 4000000
abbrev One1 := Int × Msg
def oneC (x : One1) (ve : Value) : List Value := .int .u64 x.1 :: msgC x.2 ve
def oneE : Elt One1 where
  P := fun R x cs => ∃ ve, cs = oneC x ve ∧ FrX entE R x.2.es ve
  sz := 11
  mono := fun hR ⟨ve, h, k⟩ => ⟨ve, h, k.mono hR⟩
  len := fun ⟨ve, h, k⟩ => by subst h; rfl
  one := fun ⟨ve, h, k⟩ u hu => by
    subst h
    rcases List.mem_cons.1 hu with rfl | hu
    · rfl
    · exact msgE.one ⟨ve, rfl, k⟩ u hu
/-! ### slices.Delete of one -/
theorem src_tail {c : Cx} {R : Hp} {L M : List Asn} {tx e' e : TypeId} {sz m k b o j cap : Nat} {fz : Nat × Nat} {l news : List Value} (hk : c.P.underlying tx = some (.slice e')) (f : Find (rowA b l e fz) L M) (hl : news.length = m * sz) (hc : ∀ (jj : Nat) u, news[jj]? = some u → l[o + j * sz + jj]? = some u) (h1 : ∀ u ∈ news, u.oneCell' = true)
    (hcap : m = 0 ∨ cap ≠ j) : SrcJ c R L tx sz (.slice (partAddr (some ⟨b, o, none⟩) j cap sz) m k) m news := by
  by_cases h : cap = j
  · have h0 : m = 0 := hcap.resolve_right (by simp [h])
    subst h0
    have hn : news = [] := by simpa using hl
    subst hn
    intro w hs
    unfold partAddr
    rw [if_pos h]
    exact Src.ofSlice w hk ⟨b, o, none⟩ 0 k [] (by simp) (fun j u hj => by simp at hj) (by simp)
  · have e1 : partAddr (some ⟨b, o, none⟩) j cap sz = some ⟨b, o + j * sz, none⟩ := by unfold partAddr; rw [if_neg h]; simp [add_mk]
    rw [e1]
    exact src_row hk f hl hc h1
theorem cutl {pre xs post : List Value} {a b : Nat} (hab : a ≤ b) (hb : b ≤ xs.length) : (pre ++ (xs ++ post)).take (pre.length + a) ++ xs.drop b ++ (pre ++ (xs ++ post)).drop (pre.length + a + (xs.length - b)) = pre ++ ((xs.take a ++ xs.drop b) ++ (xs.drop (a + (xs.length - b)) ++ post)) := by
  have e1 : (pre ++ (xs ++ post)).take (pre.length + a) = pre ++ xs.take a := by
    rw [List.take_append, List.take_of_length_le (by omega), Nat.add_sub_cancel_left, List.take_append_of_le_length (by omega)]
  have e2 : (pre ++ (xs ++ post)).drop (pre.length + a + (xs.length - b)) = xs.drop (a + (xs.length - b)) ++ post := by
    rw [Nat.add_assoc, ← List.drop_drop, List.drop_left, List.drop_append_of_le_length (by omega)]
  rw [e1, e2]
  simp
theorem cutz {pre X Y Z post : List Value} (h : Z.length = Y.length) : (pre ++ (X ++ (Y ++ post))).take (pre.length + X.length) ++ Z ++ (pre ++ (X ++ (Y ++ post))).drop (pre.length + X.length + Z.length) = pre ++ (X ++ (Z ++ post)) := by
  have e : pre ++ (X ++ (Y ++ post)) = (pre ++ X) ++ (Y ++ post) := by simp
  have hl : pre.length + X.length = (pre ++ X).length := by simp
  rw [e, hl, List.take_left, ← List.drop_drop, List.drop_left, h, List.drop_left]
  simp
/-- a zero one's cells -/
def msgZ : List Value := [.int .u64 0, .int .i64 0, .int .i64 0, .int .i64 0, .int .u64 0, .int .u64 0, .int .u64 0, .int .u64 0, .bool false, .slice none 0 0, .string (str [])]
theorem del_t {R : Hp} (v : Value) (n : Nat) (xs : List Value) (i : Nat) (hi : i < n) (h1 : ∀ u ∈ xs, u.oneCell' = true) :
    Tri Try.prog 26 [v, .int .i64 (i : Int), .int .i64 ((i + 1 : Nat) : Int)] R [slc 67 11 v n xs]
      (fun r R' L' => R = R' ∧ r.oneCell' = true ∧ L' = [slc 67 11 r (n - 1) (xs.take (i * 11) ++ xs.drop ((i + 1) * 11))]) := by
  refine tri_of Try.func26 rfl Try.ntmps26 rfl (fun σ F Q hret hend hpan => ?_)
  try simp only [List.cons_append, List.nil_append]
  refine cj_env (Env.le_cons (t := 0) rfl (Env.le_cons (t := 1) rfl (Env.le_cons (t := 2) rfl (Env.le_nil _)))) ?_
  refine cj_open (e := 67) (sz := 11) (n := n) (v := v) (xs := xs) (by ((repeat (first | exact Find.head _ | apply Find.tail)); done)) (by omega) (fun g cap fz pre post hv hxl hf hnc hcm hcs => ?_)
  subst hv
  have hcm2 : cap ≤ 9223372036854775807 := by simp only [maxLen] at hcm; omega
  have hxd : (xs.drop ((i + 1) * 11)).length = (n - (i + 1)) * 11 := by rw [List.length_drop, hxl]; omega
  refine cj_seq (fun K1 hK1 => ?_)
  refine cj_region ?_
  refine rj_val (wn0 rfl) rfl rfl (y_assign rfl) ?_
  refine rj_nil ?_
  refine hK1 _ _ _ ?_
  refine cj_seq (fun K2 hK2 => ?_)
  refine cj_region ?_
  refine rj_val (wn0 rfl) rfl rfl (y_move rfl) ?_
  refine rj_val (wn0 rfl) rfl rfl (y_move rfl) ?_
  refine rj_val (wn0 rfl) rfl rfl (y_move rfl) ?_
  refine rj_val (wn0 rfl) rfl rfl (y_move rfl) ?_
  first | refine rj_val (wn0 rfl) rfl rfl (y_len_sl Try.underlying61 rfl) ?_ | refine rj_val (wn0 rfl) rfl rfl (y_len_slc Try.underlying61 rfl (by ((repeat (first | exact Find.head _ | apply Find.tail)); done))) ?_
  refine rj_val (wn0 rfl) rfl rfl ((y_slice_max (l := i) (h := i + 1) (m := n) Try.underlying61 Try.sizeOf67 rfl rfl rfl rfl (by omega))) ?_
  refine rj_nil ?_
  refine hK2 _ _ _ ?_
  refine cj_env (Env.le_cons (t := 0) rfl (Env.le_cons (t := 1) rfl (Env.le_cons (t := 2) rfl (Env.le_nil _)))) ?_
  refine cj_seq (fun K3 hK3 => ?_)
  refine cj_seq (fun K4 hK4 => ?_)
  refine cj_region ?_
  refine rj_val (wn0 rfl) rfl rfl (y_move rfl) ?_
  refine rj_val (wn0 rfl) rfl rfl (y_move rfl) ?_
  refine rj_val (wn0 rfl) rfl rfl (y_eql rfl rfl) ?_
  refine rj_nil ?_
  refine hK4 _ _ _ ?_
  refine cj_cond rfl (fun hc16 => ?_) (fun hc16 => ?_)
  · exfalso; simp at hc16; omega
  · try simp only [decide_eq_true_eq, decide_eq_false_iff_not, Bool.not_eq_true', Bool.not_eq_false', Bool.true_eq_false, Bool.false_eq_true] at hc16
    refine cj_skip ?_
    refine hK3 _ _ _ ?_
    refine cj_env (Env.le_cons (t := 0) rfl (Env.le_cons (t := 1) rfl (Env.le_cons (t := 2) rfl (Env.le_nil _)))) ?_
    refine cj_seq (fun K6 hK6 => ?_)
    refine cj_region ?_
    refine rj_val (wn0 rfl) rfl rfl (y_move rfl) ?_
    first | refine rj_val (wn0 rfl) rfl rfl (y_len_sl Try.underlying61 rfl) ?_ | refine rj_val (wn0 rfl) rfl rfl (y_len_slc Try.underlying61 rfl (by ((repeat (first | exact Find.head _ | apply Find.tail)); done))) ?_
    refine rj_val (wn0 rfl) rfl rfl (y_assign rfl) ?_
    refine rj_nil ?_
    refine hK6 _ _ _ ?_
    refine cj_seq (fun K7 hK7 => ?_)
    refine cj_mixg (L := [rowA g (pre ++ (xs ++ post)) 67 fz]) [0, 1, 2, 3, 4, 5] [] [6, 7] _ (by (repeat (first | exact Sub.refl _ | (apply Sub.pick; focus (repeat (first | exact Find.head _ | apply Find.tail))) | apply Sub.drop | exact Sub.tailApp _ _))) (by kernel_rfl) (by kernel_rfl) (by kernel_rfl) rfl ?_
    refine fj_val rfl rfl rfl (wn0 rfl) (fun R1 hR1 G => (y_move rfl)) ?_
    refine fj_val rfl rfl rfl (wn0 rfl) (fun R1 hR1 G => (y_move rfl)) ?_
    refine fj_val rfl rfl rfl (wn0 rfl) (fun R1 hR1 G => (Yld.to (y_slice_sl (l := 0) (h := i) Try.underlying61 Try.sizeOf67 rfl rfl ⟨_, rfl⟩ (by omega)) (show _ = Value.slice (some ⟨g, pre.length, none⟩) i cap by simp [partAddr]; intro h; simp [add_mk]))) ?_
    refine fj_val rfl rfl rfl (wn0 rfl) (fun R1 hR1 G => (y_move rfl)) ?_
    refine fj_val rfl rfl rfl (wn0 rfl) (fun R1 hR1 G => (y_move rfl)) ?_
    refine fj_val rfl rfl rfl (wn0 rfl) (fun R1 hR1 G => (y_slice_sl (l := i + 1) (h := n) Try.underlying61 Try.sizeOf67 rfl ⟨_, rfl⟩ rfl (by omega))) ?_
    refine fj_nil ?_
    refine xj_nil ?_
    try simp only [List.cons_append, List.nil_append, List.append_nil]
    refine rj_append_room (ys := pre ++ ((xs.take (i * 11) ++ xs.drop ((i + 1) * 11)) ++ (xs.drop (i * 11 + (xs.length - (i + 1) * 11)) ++ post))) (sz := 11) (by_ := 112) (m := n - (i + 1)) (news := xs.drop ((i + 1) * 11)) ⟨Try.underlying61, _, _, rfl, rfl, rfl, rfl, rfl⟩ (wn0 rfl) rfl rfl rfl (by ((repeat (first | exact Find.head _ | apply Find.tail)); done)) hf (src_tail (l := pre ++ (xs ++ post)) Try.underlying61 (by ((repeat (first | exact Find.head _ | apply Find.tail)); done)) hxd (fun jj u hj => by rw [List.getElem?_drop] at hj; rw [Nat.add_assoc, List.getElem?_append_right (by omega), Nat.add_sub_cancel_left, List.getElem?_append_left (List.getElem?_eq_some_iff.1 hj).1]; exact hj) (fun u hu => h1 u (List.mem_of_mem_drop hu)) (by omega)) (by omega) (by simp [hxl]; omega) (by rw [show (n - (i + 1)) * 11 = xs.length - (i + 1) * 11 by omega]; exact cutl (xs := xs) (by omega) (by omega)) ?_
    refine rj_eq 26 rfl (v' := .slice (some ⟨g, pre.length, none⟩) (n - 1) cap) (by congr 1; omega) ?_
    refine rj_val (wn0 rfl) rfl rfl (y_assign rfl) ?_
    refine rj_nil ?_
    refine hK7 _ _ _ ?_
    refine cj_env (Env.le_cons (t := 0) rfl (Env.le_cons (t := 7) rfl (Env.le_nil _))) ?_
    refine cj_seq (fun K8 hK8 => ?_)
    refine cj_region ?_
    refine rj_val (wn0 rfl) rfl rfl (y_move rfl) ?_
    refine rj_val (wn0 rfl) rfl rfl (y_move rfl) ?_
    first | refine rj_val (wn0 rfl) rfl rfl (y_len_sl Try.underlying61 rfl) ?_ | refine rj_val (wn0 rfl) rfl rfl (y_len_slc Try.underlying61 rfl (by ((repeat (first | exact Find.head _ | apply Find.tail)); done))) ?_
    refine rj_val (wn0 rfl) rfl rfl (y_move rfl) ?_
    refine rj_val (wn0 rfl) rfl rfl ((Yld.to (y_slice_sl (l := n - 1) (h := n) Try.underlying61 Try.sizeOf67 rfl ⟨_, rfl⟩ ⟨_, rfl⟩ (by omega)) (show _ = Value.slice (some ⟨g, pre.length + (n - 1) * 11, none⟩) 1 (cap - (n - 1)) by unfold partAddr; rw [if_neg (by omega)]; simp [add_mk]; omega))) ?_
    refine rj_clear (ys := pre ++ ((xs.take (i * 11) ++ xs.drop ((i + 1) * 11)) ++ (msgZ ++ post))) (z := _) (news := msgZ) Try.underlying61 Try.zeroValue67 (by kernel_rfl) (by decide) (by decide) (wn0 rfl) rfl (by ((repeat (first | exact Find.head _ | apply Find.tail)); done)) (by intro o ho; exact hf o (by simp at ho ⊢; omega)) (by simp [hxl, msgZ]; omega) (by rw [show pre.length + (n - 1) * 11 = pre.length + (xs.take (i * 11) ++ xs.drop ((i + 1) * 11)).length by simp [hxl]; omega]; exact cutz (by simp [hxl, msgZ]; omega)) ?_
    refine rj_nil ?_
    refine hK8 _ _ _ ?_
    refine cj_env (Env.le_cons (t := 0) rfl (Env.le_nil _)) ?_
    refine cj_seq (fun K9 hK9 => ?_)
    refine cj_region ?_
    refine rj_turn (A := rowA g (pre ++ ((xs.take (i * 11) ++ xs.drop ((i + 1) * 11)) ++ (msgZ ++ post))) 67 fz) (B := slc 67 11 (.slice (some ⟨g, pre.length, none⟩) (n - 1) cap) (n - 1) (xs.take (i * 11) ++ xs.drop ((i + 1) * 11))) (by ((repeat (first | exact Find.head _ | apply Find.tail)); done)) (slc_close (by simp [hxl]; omega) (by intro o ho; exact hf o (by simp [hxl, msgZ] at ho ⊢; omega)) (by omega) hcm (by simp [hxl, msgZ] at hcs ⊢; omega)) ?_
    refine rj_val (wn0 rfl) rfl rfl (y_move rfl) ?_
    refine rj_val (wn0 rfl) rfl rfl (y_assign rfl) ?_
    refine rj_nil ?_
    refine hK9 _ _ _ ?_
    refine cj_ret ?_
    refine hret _ _ _ ?_
    apply ej_ret Try.results26 (.cons (rv_tmp rfl) .nil) _ [slc 67 11 (.slice (some ⟨g, pre.length, none⟩) (n - 1) cap) (n - 1) (xs.take (i * 11) ++ xs.drop ((i + 1) * 11))] (by (first | exact Hp.le_refl _ | assumption | exact Hp.le_trans ‹_› ‹_›)) rfl
    case hp => exact ⟨rfl, rfl, rfl⟩
    case hS => (repeat (first | exact Sub.refl _ | (apply Sub.pick; focus (repeat (first | exact Find.head _ | apply Find.tail))) | apply Sub.drop | exact Sub.tailApp _ _))
end V
end Go.Proofs.Ythdmbdbncbdmiaa
