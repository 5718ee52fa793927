/- A log's changes, walked: SetTerm, Add. -/
import Derived.Test.YtcgjlhhfldkdaaaT8b
set_option linter.unusedSimpArgs false
set_option linter.unusedVariables false
set_option maxRecDepth 100000
namespace Go.Proofs.Ytcgjlhhfldkdaaa
open Go.RowKit
namespace V
set_option maxHeartbeats 4000000
def LG.setTermD (g : LG) (D : DK) (t v : Int) : Int × LG × DK :=
  if (g.down || D.down) = true then (3, g, D) else if t < g.term ∨ v < -1 then (1, g, D)
  else if (D.put (Rec.term t v).bytes).1 = 0 then (0, { g with term := t, vote := v }, (D.put (Rec.term t v).bytes).2) else ((D.put (Rec.term t v).bytes).1, { g with down := true }, (D.put (Rec.term t v).bytes).2)
def LG.addD (g : LG) (D : DK) (b : Int) (m : List Ent) : Int × LG × DK :=
  if (g.down || D.down) = true then (3, g, D) else if b < g.base ∨ b > g.last then (1, g, D)
  else if (D.put (Rec.add b m).bytes).1 = 0 then (0, g.play (.add b m), (D.put (Rec.add b m).bytes).2) else ((D.put (Rec.add b m).bytes).1, { g with down := true }, (D.put (Rec.add b m).bytes).2)
theorem lgSetTerm_t {R : Hp} (b bd : Nat) (va u : Value) (g : LG) (D : DK) (m : Nat) (t vt : Int) (hg : g.ok) (ht : u64B t) (hv : vt < 9223372036854775807) (hv2 : -9223372036854775808 ≤ vt) (hvo : va.oneCell' = true) (hD : D.ok m) (hm : m ≤ 900000000) :
    Tri Try.prog 13 [.pointer (some ⟨b, 0, none⟩), .int .u64 t, .int .i64 vt] R [lgB b (some ⟨bd, 0, none⟩) va g, dkB bd u D, dkS u D]
      (fun x R' L' => x = .int .i64 (g.setTermD D t vt).1 ∧ ∃ u', L' = [lgB b (some ⟨bd, 0, none⟩) va (g.setTermD D t vt).2.1, dkB bd u' (g.setTermD D t vt).2.2, dkS u' (g.setTermD D t vt).2.2]) := by
  have hdq := lgDown_q (R := R) b bd va u g D
  refine tri_of Try.func13 rfl Try.ntmps13 rfl (fun σ F Q hret hend hpan => ?_)
  try simp only [List.cons_append, List.nil_append]
  refine cj_env (eL 0 rfl (eL 1 rfl (eL 2 rfl eN))) ?_
  unfold lgB lgC at hdq ⊢
  refine cj_seq (fun K1 hK1 => ?_)
  refine cj_region ?_
  refine rv0 rfl rfl rfl (y_assign rfl) ?_
  refine rj_nil ?_
  refine hK1 _ _ _ ?_
  refine cj_seq (fun K2 hK2 => ?_)
  refine cj_block ?_
  refine cj_seq (fun K3 hK3 => ?_)
  refine cj_region ?_
  refine rv0 rfl rfl rfl (y_move rfl) ?_
  refine rv0 rfl rfl rfl (y_call Try.call22 rfl (hdq) (by (repeat (first|exact zN _|(apply zS;focus (repeat (first|exact zH _|apply zT))))))) ?_
  refine rv0 rfl rfl rfl (y_assign rfl) ?_
  refine rj_nil ?_
  refine hK3 _ _ _ ?_
  refine cj_env (eL 0 rfl (eL 1 rfl (eL 2 rfl (eL 8 rfl eN)))) ?_
  refine cj_cond rfl (fun hc8 => ?_) (fun hc8 => ?_)
  ·have f0 : (g.down || D.down) = true := hc8
   refine cj_seq (fun K5 hK5 => ?_)
   refine cj_region ?_
   refine rv0 rfl rfl rfl (y_assign rfl) ?_
   refine rj_nil ?_
   refine hK5 _ _ _ ?_
   refine cj_env (eL 6 rfl eN) ?_
   refine cj_ret ?_
   refine hret _ _ _ ?_
   apply ej_ret Try.results13 (.cons (rv_tmp rfl) .nil) _ [lgB b (some ⟨bd, 0, none⟩) va g, dkB bd u D, dkS u D] (by first | exact Hp.le_refl _ | exact hR2) rfl
   case hp => rw [show g.setTermD D t vt = (3, g, D) by unfold LG.setTermD; rw [if_pos f0]]; exact ⟨rfl, u, rfl⟩
   case hS => (repeat (first|exact zR _|(apply zP;focus (repeat (first|exact zH _|apply zT)))|apply zD|exact zA _ _))
  ·have f0 : ¬ (g.down || D.down) = true := by simpa using hc8
   refine cj_seq (fun K6 hK6 => ?_)
   refine cj_region ?_
   refine rv0 rfl rfl rfl (y_move rfl) ?_
   refine rv0 rfl rfl rfl (y_move rfl) ?_
   refine rv0 rfl rfl rfl (y_nilCheck rfl) ?_
   refine rv0 rfl rfl rfl (y_fieldAddr (k := 2) Try.underlying58 rfl (n := 1) (by decide) Try.sizeOf25 rfl) ?_
   first | refine rv0 rfl rfl rfl (y_load ⟨Try.isAgg25, Try.sizeOf25⟩ rfl (by (repeat (first|exact zH _|apply zT));done) rfl) ?_ | refine rv0 rfl rfl rfl (y_load_slc ⟨Try.isAgg25, Try.sizeOf25⟩ rfl (by (repeat (first|exact zH _|apply zT));done) rfl) ?_
   refine rv0 rfl rfl rfl (y_lss rfl rfl) ?_
   refine rv0 rfl rfl rfl (y_move rfl) ?_
   refine rj_part 18 rfl (fun hg18 => ?_) (fun hg18 => ?_)
   ·have f1 : t < g.term ∨ vt < -1 := .inl (by simpa using hg18)
    refine rj_skip (wn2 rfl rfl rfl rfl rfl) rfl rfl ?_
    refine rj_skip (wn2 rfl rfl rfl rfl rfl) rfl rfl ?_
    refine rv0 rfl rfl rfl (y_pick_t rfl rfl) ?_
    refine rv0 rfl rfl rfl (y_assign rfl) ?_
    refine rj_nil ?_
    refine hK6 _ _ _ ?_
    refine cj_env (eL 0 rfl (eL 1 rfl (eL 2 rfl (eL 11 rfl eN)))) ?_
    refine cj_cond_t rfl ?_
    refine cj_seq (fun K7 hK7 => ?_)
    refine cj_region ?_
    refine rv0 rfl rfl rfl (y_assign rfl) ?_
    refine rj_nil ?_
    refine hK7 _ _ _ ?_
    refine cj_env (eL 6 rfl eN) ?_
    refine cj_ret ?_
    refine hret _ _ _ ?_
    apply ej_ret Try.results13 (.cons (rv_tmp rfl) .nil) _ [lgB b (some ⟨bd, 0, none⟩) va g, dkB bd u D, dkS u D] (by first | exact Hp.le_refl _ | exact hR2) rfl
    case hp => rw [show g.setTermD D t vt = (1, g, D) by unfold LG.setTermD; rw [if_neg f0, if_pos f1]]; exact ⟨rfl, u, rfl⟩
    case hS => (repeat (first|exact zR _|(apply zP;focus (repeat (first|exact zH _|apply zT)))|apply zD|exact zA _ _))
   ·have f10 : ¬ t < g.term := by simpa using hg18
    refine rj_val (wn1 rfl rfl rfl rfl) rfl rfl (y_move rfl) ?_
    refine rj_val (wn1 rfl rfl rfl rfl) rfl rfl (y_lss rfl rfl) ?_
    refine rv0 rfl rfl rfl (y_pick_f rfl rfl) ?_
    refine rv0 rfl rfl rfl (y_assign rfl) ?_
    refine rj_nil ?_
    refine hK6 _ _ _ ?_
    refine cj_env (eL 0 rfl (eL 1 rfl (eL 2 rfl (eL 11 rfl eN)))) ?_
    refine cj_cond rfl (fun hc11 => ?_) (fun hc11 => ?_)
    ·first | have f1 : t < g.term ∨ vt < -1 := .inr (by simpa using hc11) | skip
     refine cj_seq (fun K9 hK9 => ?_)
     refine cj_region ?_
     refine rv0 rfl rfl rfl (y_assign rfl) ?_
     refine rj_nil ?_
     refine hK9 _ _ _ ?_
     refine cj_env (eL 6 rfl eN) ?_
     refine cj_ret ?_
     refine hret _ _ _ ?_
     apply ej_ret Try.results13 (.cons (rv_tmp rfl) .nil) _ [lgB b (some ⟨bd, 0, none⟩) va g, dkB bd u D, dkS u D] (by first | exact Hp.le_refl _ | exact hR2) rfl
     case hp => rw [show g.setTermD D t vt = (1, g, D) by unfold LG.setTermD; rw [if_neg f0, if_pos f1]]; exact ⟨rfl, u, rfl⟩
     case hS => (repeat (first|exact zR _|(apply zP;focus (repeat (first|exact zH _|apply zT)))|apply zD|exact zA _ _))
    ·have f1 : ¬ (t < g.term ∨ vt < -1) := by (try simp at hc11); omega
     refine cj_skip ?_
     refine hK2 _ _ _ ?_
     refine cj_seq (fun K10 hK10 => ?_)
     refine cj_seq (fun K11 hK11 => ?_)
     refine cj_region ?_
     have hvb : -1 ≤ vt ∧ vt < 9223372036854775807 := by omega
     have hmay : (Rec.term t vt).may g := ⟨ht, hvb.1, hvb.2⟩
     have hv1 : u64B (vt + 1) := by unfold u64B; omega
     have hu0 : u64B 0 := by unfold u64B; omega
     refine rv0 rfl rfl rfl (y_move rfl) ?_
     refine rv0 rfl rfl rfl (y_call Try.call24 rfl (numN_q _) (by (repeat (first|exact zN _|(apply zS;focus (repeat (first|exact zH _|apply zT))))))) ?_
     refine rv0 rfl rfl rfl (y_move rfl) ?_
     refine rv0 rfl rfl rfl (y_call Try.call24 rfl (numN_q _) (by (repeat (first|exact zN _|(apply zS;focus (repeat (first|exact zH _|apply zT))))))) ?_
     refine rv0 rfl rfl rfl (y_move rfl) ?_
     refine rv0 rfl rfl rfl ((y_add64 rfl rfl (by omega))) ?_
     refine rv0 rfl rfl rfl ((y_conv_in Try.underlying3 Try.underlying25 rfl (by (simp only [IntKind.min, IntKind.max, IntKind.signed, IntKind.bits, Bool.false_eq_true, ite_false, ite_true]; omega)))) ?_
     refine rv0 rfl rfl rfl (y_call Try.call24 rfl (numN_q _) (by (repeat (first|exact zN _|(apply zS;focus (repeat (first|exact zH _|apply zT))))))) ?_
     refine rj_buildSlice (sz := 4) (wn0 rfl) rfl Try.underlying60 Try.sizeOf62 Try.zeroValue62 rfl rfl rfl (by decide) (by decide) (fun bk => ?_)
     refine rj_call (wn0 rfl) rfl Try.call23 rfl (lgWrite_t b bd va u g D m (Rec.term t vt) (.slice (some ⟨bk, 0, none⟩) 3 3) [[.int .i64 0, .int .u64 0, .string (str []), .slice none 0 0], [.int .i64 0, .int .u64 t, .string (str []), .slice none 0 0], [.int .i64 0, .int .u64 (vt + 1), .string (str []), .slice none 0 0]] (kids3 (rep_num hu0) (rep_num ht) (rep_num hv1)) hg hmay (Nat.le_trans (Rec.len_term ht hvb) (by decide)) hD hm) (by (repeat (first|exact zN _|(apply zS;focus (repeat (first|exact zH _|apply zT)))))) (fun _ _ _ _ h => h.elim) ?_
     rintro x R2 L' hR2 ⟨rfl, u2, rfl⟩
     unfold lgB lgC
     try simp only [List.cons_append, List.nil_append]
     refine rv0 rfl rfl rfl (y_assign rfl) ?_
     refine rj_nil ?_
     refine hK11 _ _ _ ?_
     refine cj_env (eL 0 rfl (eL 1 rfl (eL 2 rfl (eL 7 rfl eN)))) ?_
     refine cj_seq (fun K12 hK12 => ?_)
     refine cj_region ?_
     refine rv0 rfl rfl rfl (y_move rfl) ?_
     refine rv0 rfl rfl rfl (y_neq rfl rfl) ?_
     refine rj_nil ?_
     refine hK12 _ _ _ ?_
     refine cj_cond rfl (fun hc33 => ?_) (fun hc33 => ?_)
     ·have f2 : ¬ (D.put (Rec.term t vt).bytes).1 = 0 := by simpa using hc33
      refine cj_seq (fun K14 hK14 => ?_)
      refine cj_region ?_
      refine rv0 rfl rfl rfl (y_move rfl) ?_
      refine rv0 rfl rfl rfl (y_assign rfl) ?_
      refine rj_nil ?_
      refine hK14 _ _ _ ?_
      refine cj_env (eL 6 rfl eN) ?_
      refine cj_ret ?_
      refine hret _ _ _ ?_
      apply ej_ret Try.results13 (.cons (rv_tmp rfl) .nil) _ [lgB b (some ⟨bd, 0, none⟩) va { g with down := or g.down (!decide ((D.put (Rec.term t vt).bytes).1 = 0)) }, dkB bd u2 (D.put (Rec.term t vt).bytes).2, dkS u2 (D.put (Rec.term t vt).bytes).2] (by first | exact Hp.le_refl _ | exact hR2) rfl
      case hp => rw [show g.setTermD D t vt = ((D.put (Rec.term t vt).bytes).1, { g with down := true }, (D.put (Rec.term t vt).bytes).2) by unfold LG.setTermD; rw [if_neg f0, if_neg f1, if_neg f2]]; refine ⟨rfl, u2, ?_⟩; simp [f2]
      case hS => (repeat (first|exact zR _|(apply zP;focus (repeat (first|exact zH _|apply zT)))|apply zD|exact zA _ _))
     ·have f2 : (D.put (Rec.term t vt).bytes).1 = 0 := by simpa using hc33
      refine cj_skip ?_
      refine hK10 _ _ _ ?_
      refine cj_env (eL 0 rfl (eL 1 rfl (eL 2 rfl eN))) ?_
      refine cj_seq (fun K15 hK15 => ?_)
      refine cj_region ?_
      refine rv0 rfl rfl rfl (y_move rfl) ?_
      refine rv0 rfl rfl rfl (y_move rfl) ?_
      refine rv0 rfl rfl rfl (y_move rfl) ?_
      refine rv0 rfl rfl rfl (y_move rfl) ?_
      refine rv0 rfl rfl rfl (y_nilCheck rfl) ?_
      refine rv0 rfl rfl rfl (y_fieldAddr (k := 2) Try.underlying58 rfl (n := 1) (by decide) Try.sizeOf25 rfl) ?_
      refine rj_store ⟨Try.isAgg25, Try.sizeOf25⟩ (wn0 rfl) rfl rfl (by (first | rfl | assumption | (apply cutV_one; assumption))) (by (repeat (first|exact zH _|apply zT));done) rfl rfl ?_
      refine rv0 rfl rfl rfl (y_nilCheck rfl) ?_
      refine rv0 rfl rfl rfl (y_fieldAddr (k := 3) Try.underlying58 rfl (n := 1) (by decide) Try.sizeOf3 rfl) ?_
      refine rj_store ⟨Try.isAgg3, Try.sizeOf3⟩ (wn0 rfl) rfl rfl (by (first | rfl | assumption | (apply cutV_one; assumption))) (by (repeat (first|exact zH _|apply zT));done) rfl rfl ?_
      refine rj_nil ?_
      refine hK15 _ _ _ ?_
      refine cj_env eN ?_
      refine cj_seq (fun K16 hK16 => ?_)
      refine cj_region ?_
      refine rv0 rfl rfl rfl (y_assign rfl) ?_
      refine rj_nil ?_
      refine hK16 _ _ _ ?_
      refine cj_ret ?_
      refine hret _ _ _ ?_
      apply ej_ret Try.results13 (.cons (rv_tmp rfl) .nil) _ [lgB b (some ⟨bd, 0, none⟩) va { g with term := t, vote := vt, down := or g.down (!decide ((D.put (Rec.term t vt).bytes).1 = 0)) }, dkB bd u2 (D.put (Rec.term t vt).bytes).2, dkS u2 (D.put (Rec.term t vt).bytes).2] (by first | exact Hp.le_refl _ | exact hR2) rfl
      case hp => rw [show g.setTermD D t vt = (0, { g with term := t, vote := vt }, (D.put (Rec.term t vt).bytes).2) by unfold LG.setTermD; rw [if_neg f0, if_neg f1, if_pos f2]]; refine ⟨rfl, u2, ?_⟩; simp [f2]
      case hS => (repeat (first|exact zR _|(apply zP;focus (repeat (first|exact zH _|apply zT)))|apply zD|exact zA _ _))
theorem FrX.sub {α : Type} {T : Elt α} {R : Hp} {l : List α} {q : Option Addr} {cap : Nat} (h : FrX T R l (.slice q l.length cap)) {a b : Nat} (hab : a ≤ b) (hb : b ≤ l.length) : FrX T R ((l.drop a).take (b - a)) (.slice (partAddr q a cap T.sz) (b - a) (cap - a)) := by
  obtain ⟨css, hE, q', cap', e, h1, h2, h3⟩ := h
  cases e
  have hlen : ((l.drop a).take (b - a)).length = b - a := by simp; omega
  refine ⟨(css.drop a).take (b - a), (hE.drop a).take (b - a), partAddr q a cap T.sz, cap - a, by rw [hlen], by rw [hlen]; omega, by omega, ?_⟩
  rw [hlen]
  rcases Nat.eq_zero_or_pos (b - a) with h0 | h0
  · exact .inl h0
  · rcases h3 with h3 | ⟨b0, off, rfl, hc⟩
    · omega
    · refine .inr ⟨b0, off + a * T.sz, by unfold partAddr; rw [if_neg (by omega)]; simp [add_mk], fun j u hj => ?_⟩
      rw [← ftake (n := T.sz) _ (fun c hc => hE.len c (List.mem_of_mem_drop hc)), ← fdrop (n := T.sz) _ hE.len, List.getElem?_take] at hj
      split at hj
      · rw [List.getElem?_drop] at hj
        rw [Nat.add_assoc]; exact hc _ u hj
      · cases hj
def entsC (l : List Ent) : List Value := (l.map entC).flatten
theorem ents_css {R : Hp} {l : List Ent} {css : List (List Value)} (h : Els entE R l css) : css = l.map entC := by
  apply List.ext_getElem?
  intro i
  rw [List.getElem?_map]
  by_cases hi : i < l.length
  · have h1 : l[i]? = some l[i] := List.getElem?_eq_getElem hi
    have h2 : css[i]? = some (css[i]'(by rw [h.1]; exact hi)) := List.getElem?_eq_getElem (by rw [h.1]; exact hi)
    have := h.2 i _ _ h1 h2
    rw [h1, h2]; simpa [entE] using this
  · rw [List.getElem?_eq_none (by rw [h.1]; omega), List.getElem?_eq_none (by omega)]; rfl
theorem entsEls {R : Hp} (l : List Ent) : Els entE R l (l.map entC) := ⟨by simp, fun i x cs h1 h2 => by rw [List.getElem?_map, h1] at h2; simpa [entE] using h2.symm⟩
theorem entsFr {R : Hp} {l : List Ent} {v : Value} (h : FrozenS R v l.length (entsC l)) : FrX entE R l v := FrozenS.frx h (entsEls l)
theorem entsC_app (l m : List Ent) : entsC l ++ entsC m = entsC (l ++ m) := by simp [entsC]
theorem entsC_one (l : List Ent) : ∀ u ∈ entsC l, u.oneCell' = true := fun u hu => by
  obtain ⟨c, hc, hu⟩ := List.mem_flatten.1 hu
  obtain ⟨e, _, rfl⟩ := List.mem_map.1 hc
  exact entE.one (R := Hp.emp) (x := e) rfl u hu
theorem FrX.ents {R : Hp} {l : List Ent} {v : Value} (h : FrX entE R l v) : FrS R v l.length (l.map entC).flatten := by
  obtain ⟨css, h1, h2⟩ := h
  rw [ents_css h1] at h2
  exact h2
theorem eclone_t {R : Hp} (l : List Ent) (v : Value) (hl : FrX entE R l v) (hn : l.length ≤ 1000000) : Tri Try.prog 41 [v] R [] (fun r R' L' => R = R' ∧ r.oneCell' = true ∧ L' = [slc 37 2 r l.length (entsC l)]) := by
  have hfs := hl.ents
  obtain ⟨q, cap, rfl, h1, h2, h3⟩ := hfs
  have hfs := hl.ents
  refine tri_of Try.func41 rfl Try.ntmps41 rfl (fun σ F Q hret hend hpan => ?_)
  try simp only [List.cons_append, List.nil_append]
  refine cj_env (eL 0 rfl eN) ?_
  refine cj_seq (fun K1 hK1 => ?_)
  refine cj_region ?_
  refine rv0 rfl rfl rfl (y_assign rfl) ?_
  refine rj_nil ?_
  refine hK1 _ _ _ ?_
  refine cj_seq (fun K2 hK2 => ?_)
  refine cj_seq (fun K3 hK3 => ?_)
  refine cj_region ?_
  refine rv0 rfl rfl rfl (y_move rfl) ?_
  refine rv0 rfl rfl rfl ((y_sleql Try.underlying22 rfl rfl)) ?_
  refine rj_nil ?_
  refine hK3 _ _ _ ?_
  refine cj_cond rfl (fun hc4 => ?_) (fun hc4 => ?_)
  ·obtain rfl : q = none := by simpa using hc4
   obtain rfl : l = [] := by rcases h3 with h | ⟨b, off, h, _⟩; exact List.eq_nil_of_length_eq_zero h; cases h
   refine cj_seq (fun K5 hK5 => ?_)
   refine cj_region ?_
   refine rj_add (A := slc 37 2 (.slice none 0 0) 0 []) (slc_nil _ _) ?_
   refine rv0 rfl rfl rfl (y_assign rfl) ?_
   refine rj_nil ?_
   refine hK5 _ _ _ ?_
   refine cj_env (eL 2 rfl eN) ?_
   refine cj_ret ?_
   refine hret _ _ _ ?_
   apply ej_ret Try.results41 (.cons (rv_tmp rfl) .nil) _ [slc 37 2 (.slice none 0 0) 0 []] (by (first | exact Hp.le_refl _ | assumption | exact Hp.le_trans ‹_› ‹_›)) rfl
   case hp => exact ⟨rfl, rfl, rfl⟩
   case hS => (repeat (first|exact zR _|(apply zP;focus (repeat (first|exact zH _|apply zT)))|apply zD|exact zA _ _))
  ·try simp only [dT, dF, nT, nF, tF, fT] at hc4
   refine cj_skip ?_
   refine hK2 _ _ _ ?_
   refine cj_env (eL 0 rfl eN) ?_
   refine cj_seq (fun K6 hK6 => ?_)
   refine cj_region ?_
   refine rj_buildSlice (sz := 2) (wn0 rfl) rfl Try.underlying22 Try.sizeOf37 Try.zeroValue37 rfl rfl rfl (by decide) (by decide) (fun b5 => ?_)
   refine rv0 rfl rfl rfl (y_move rfl) ?_
   refine rj_append (sz := 2) (by_ := 24) ⟨Try.underlying22, _, _, rfl, rfl, rfl, rfl, rfl⟩ (wn0 rfl) rfl rfl rfl (by (repeat (first|exact zH _|apply zT));done) ((FrX.src (T := entE) Try.underlying22 (entsEls l) hfs)) rfl (by (first | omega | (dsimp only; omega) | (simp; done) | (simp; omega))) (by simp only [maxLen]; omega) (fun v7 ho7 hh7 => ?_)
   rw [Nat.zero_add, List.nil_append]
   refine rv0 rfl rfl rfl (y_assign rfl) ?_
   refine rj_nil ?_
   refine hK6 _ _ _ ?_
   refine cj_env (eL 2 rfl eN) ?_
   refine cj_ret ?_
   refine hret _ _ _ ?_
   apply ej_ret Try.results41 (.cons (rv_tmp rfl) .nil) _ [slc 37 2 v7 l.length (entsC l)] (by (first | exact Hp.le_refl _ | assumption | exact Hp.le_trans ‹_› ‹_›)) rfl
   case hp => exact ⟨rfl, by assumption, rfl⟩
   case hS => (repeat (first|exact zR _|(apply zP;focus (repeat (first|exact zH _|apply zT)))|apply zD|exact zA _ _))
theorem lgAdd0_t {R : Hp} (b : Nat) (d : Option Addr) (va vm : Value) (g : LG) (i : Int) (m : List Ent) (hg : g.ok) (hi : g.base ≤ i ∧ i ≤ g.last) (hva : FrX entE R g.all va) (hvm : FrX entE R m vm) (hm : m.length ≤ 1000000) :
    Tri Try.prog 26 [.pointer (some ⟨b, 0, none⟩), .int .u64 i, vm] R [lgB b d va g]
      (fun x R' L' => ∃ va', FrX entE R' (g.play (.add i m)).all va' ∧ L' = [lgB b d va' (g.play (.add i m))]) := by
  obtain ⟨q, cap, rfl, hq1, hq2⟩ := hva.shape
  have hvs := hvm.ents
  obtain ⟨qm, capm, rfl, _, _⟩ := hvm.shape
  have hb := hg.base
  have hn := hg.alln
  have hle : g.last = g.base + g.all.length := rfl
  obtain ⟨k, hk⟩ : ∃ k : Nat, i - g.base = k := ⟨(i - g.base).toNat, by omega⟩
  have hsub := hva.sub (a := 0) (b := k) (by omega) (by omega)
  rw [List.drop_zero, Nat.sub_zero] at hsub
  have hkl : (g.all.take k).length ≤ 1000000 := by simp; omega
  have hall : (g.play (.add i m)).all = g.all.take k ++ m := by unfold LG.play; simp [hk]
  refine tri_of Try.func26 rfl Try.ntmps26 rfl (fun σ F Q hret hend hpan => ?_)
  try simp only [List.cons_append, List.nil_append]
  refine cj_env (eL 0 rfl (eL 1 rfl (eL 2 rfl eN))) ?_
  unfold lgB lgC
  refine cj_mixg (L := [blk b [.pointer d, .bool g.down, .int .u64 g.term, .int .i64 g.vote, .int .u64 g.base, .int .u64 g.baseT, .string (str g.state), .slice q g.all.length cap] 58]) [0, 1, 2, 3, 4, 5, 6, 7, 8, 9, 10, 11, 13] [12, 14] [15, 16, 17] _ (by (repeat (first|exact zR _|(apply zP;focus (repeat (first|exact zH _|apply zT)))|apply zD|exact zA _ _))) (by kernel_rfl) (by kernel_rfl) (by kernel_rfl) rfl ?_
  refine fj_val rfl rfl rfl (wn0 rfl) (fun R1 hR1 G => (y_move rfl)) ?_
  refine fj_val rfl rfl rfl (wn0 rfl) (fun R1 hR1 G => (y_move rfl)) ?_
  refine fj_val rfl rfl rfl (wn0 rfl) (fun R1 hR1 G => (y_nilCheck rfl)) ?_
  refine fj_val rfl rfl rfl (wn0 rfl) (fun R1 hR1 G => (y_fieldAddr (k := 7) Try.underlying58 rfl (n := 1) (by decide) Try.sizeOf22 rfl)) ?_
  first | refine fj_val rfl rfl rfl (wn0 rfl) (fun R1 hR1 G => (y_load ⟨Try.isAgg22, Try.sizeOf22⟩ rfl (by (repeat (first|exact zH _|apply zT));done) rfl)) ?_ | refine fj_val rfl rfl rfl (wn0 rfl) (fun R1 hR1 G => (y_load_slc ⟨Try.isAgg22, Try.sizeOf22⟩ rfl (by (repeat (first|exact zH _|apply zT));done) rfl)) ?_
  refine fj_val rfl rfl rfl (wn0 rfl) (fun R1 hR1 G => (y_move rfl)) ?_
  refine fj_val rfl rfl rfl (wn0 rfl) (fun R1 hR1 G => (y_move rfl)) ?_
  refine fj_val rfl rfl rfl (wn0 rfl) (fun R1 hR1 G => (y_nilCheck rfl)) ?_
  refine fj_val rfl rfl rfl (wn0 rfl) (fun R1 hR1 G => (y_fieldAddr (k := 4) Try.underlying58 rfl (n := 1) (by decide) Try.sizeOf25 rfl)) ?_
  first | refine fj_val rfl rfl rfl (wn0 rfl) (fun R1 hR1 G => (y_load ⟨Try.isAgg25, Try.sizeOf25⟩ rfl (by (repeat (first|exact zH _|apply zT));done) rfl)) ?_ | refine fj_val rfl rfl rfl (wn0 rfl) (fun R1 hR1 G => (y_load_slc ⟨Try.isAgg25, Try.sizeOf25⟩ rfl (by (repeat (first|exact zH _|apply zT));done) rfl)) ?_
  refine fj_val rfl rfl rfl (wn0 rfl) (fun R1 hR1 G => (Yld.to (u := .int .u64 (k : Int)) (y_subu rfl rfl (by omega)) (by rw [hk]))) ?_
  refine fj_val rfl rfl rfl (wn0 rfl) (fun R1 hR1 G => (y_slice_sl (l := 0) (h := k) Try.underlying22 Try.sizeOf37 rfl rfl ⟨.u64, rfl⟩ (by omega))) ?_
  refine fj_val rfl rfl rfl (wn0 rfl) (fun R1 hR1 G => (y_move rfl)) ?_
  refine fj_nil ?_
  refine xj_rj rfl ?_
  try simp only [List.cons_append, List.nil_append, List.append_nil]
  refine rj_call (wn0 rfl) rfl Try.call41 rfl (eclone_t (g.all.take k) _ hsub hkl) (by (repeat (first|exact zN _|(apply zS;focus (repeat (first|exact zH _|apply zT)))))) (fun _ _ _ _ h => h.elim) ?_
  rintro r R2 L' hR2 ⟨rfl, hro, rfl⟩
  try simp only [List.cons_append, List.nil_append]
  refine rj_xk (by (first | exact Hp.le_refl _ | assumption | exact Hp.le_trans ‹_› ‹_›)) (by (repeat (first|exact zR _|(apply zP;focus (repeat (first|exact zH _|apply zT)))|apply zD|exact zA _ _))) ?_
  refine xj_rj rfl ?_
  try simp only [List.cons_append, List.nil_append, List.append_nil]
  refine rj_append (sz := 2) (by_ := 24) ⟨Try.underlying22, _, _, rfl, rfl, rfl, rfl, rfl⟩ (wn0 rfl) rfl rfl rfl (by (repeat (first|exact zH _|apply zT));done) ((FrX.src (T := entE) Try.underlying22 (entsEls m) hvs)) rfl (by (first | omega | (dsimp only; omega) | (simp; done) | (simp; omega))) (by simp only [maxLen]; omega) (fun v20 ho20 hh20 => ?_)
  rw [show entsC (g.all.take k) ++ (m.map entC).flatten = entsC (g.all.take k ++ m) from entsC_app _ _, ← List.length_append]
  refine rj_xk (by (first | exact Hp.le_refl _ | assumption | exact Hp.le_trans ‹_› ‹_›)) (by (repeat (first|exact zR _|(apply zP;focus (repeat (first|exact zH _|apply zT)))|apply zD|exact zA _ _))) ?_
  refine xj_nil ?_
  try simp only [List.cons_append, List.nil_append, List.append_nil]
  refine rv0 rfl rfl rfl (y_nilCheck rfl) ?_
  refine rv0 rfl rfl rfl (y_fieldAddr (k := 7) Try.underlying58 rfl (n := 1) (by decide) Try.sizeOf22 rfl) ?_
  refine rj_store ⟨Try.isAgg22, Try.sizeOf22⟩ (wn0 rfl) rfl rfl (by (first | rfl | assumption | (apply cutV_one; assumption))) (by (repeat (first|exact zH _|apply zT));done) rfl rfl ?_
  refine rj_freeze (e := 37) (sz := 2) (n := (g.all.take k ++ m).length) (v := v20) (xs := entsC (g.all.take k ++ m)) (by (repeat (first|exact zH _|apply zT));done) (fun R3 hR3 hfr hxl => ?_)
  have hfx := entsFr hfr
  refine rj_nil ?_
  refine hend _ _ _ ?_
  apply ej_end Try.results26 .nil _ [lgB b d v20 (g.play (.add i m))] hR3 rfl
  case hp => exact ⟨v20, by rw [hall]; exact hfx, rfl⟩
  case hS => (repeat (first|exact zR _|(apply zP;focus (repeat (first|exact zH _|apply zT)))|apply zD|exact zA _ _))
theorem lgAdd_t {R : Hp} (b bd : Nat) (va u vm : Value) (g : LG) (D : DK) (n : Nat) (i : Int) (m : List Ent) (hg : g.ok) (hi : u64B i) (hva : FrX entE R g.all va) (hvm : FrX entE R m vm) (hm : m.length ≤ 100000) (hmb : ∀ e ∈ m, u64B e.1 ∧ e.2.length ≤ 1000000) (hml : entsLen m ≤ 16000000) (hD : D.ok n) (hn : n ≤ 900000000) :
    Tri Try.prog 8 [.pointer (some ⟨b, 0, none⟩), .int .u64 i, vm] R [lgB b (some ⟨bd, 0, none⟩) va g, dkB bd u D, dkS u D]
      (fun x R' L' => x = .int .i64 (g.addD D i m).1 ∧ ∃ u' va', FrX entE R' (g.addD D i m).2.1.all va' ∧ L' = [lgB b (some ⟨bd, 0, none⟩) va' (g.addD D i m).2.1, dkB bd u' (g.addD D i m).2.2, dkS u' (g.addD D i m).2.2]) := by
  have hdq := lgDown_q (R := R) b bd va u g D
  have hlq := lgLast_q (R := R) b (some ⟨bd, 0, none⟩) va g hg hva
  have hvo := hva.one
  have hvmo := hvm.one
  have hb := hg.base
  have hle : g.last = g.base + g.all.length := rfl
  refine tri_of Try.func8 rfl Try.ntmps8 rfl (fun σ F Q hret hend hpan => ?_)
  try simp only [List.cons_append, List.nil_append]
  refine cj_env (eL 0 rfl (eL 1 rfl (eL 2 rfl eN))) ?_
  unfold lgB lgC at hdq hlq ⊢
  refine cj_seq (fun K1 hK1 => ?_)
  refine cj_region ?_
  refine rv0 rfl rfl rfl (y_assign rfl) ?_
  refine rj_nil ?_
  refine hK1 _ _ _ ?_
  refine cj_seq (fun K2 hK2 => ?_)
  refine cj_block ?_
  refine cj_seq (fun K3 hK3 => ?_)
  refine cj_region ?_
  refine rv0 rfl rfl rfl (y_move rfl) ?_
  refine rv0 rfl rfl rfl (y_call Try.call22 rfl (hdq) (by (repeat (first|exact zN _|(apply zS;focus (repeat (first|exact zH _|apply zT))))))) ?_
  refine rv0 rfl rfl rfl (y_assign rfl) ?_
  refine rj_nil ?_
  refine hK3 _ _ _ ?_
  refine cj_env (eL 0 rfl (eL 1 rfl (eL 2 rfl (eL 8 rfl eN)))) ?_
  refine cj_cond rfl (fun hc8 => ?_) (fun hc8 => ?_)
  ·have f0 : (g.down || D.down) = true := hc8
   refine cj_seq (fun K5 hK5 => ?_)
   refine cj_region ?_
   refine rv0 rfl rfl rfl (y_assign rfl) ?_
   refine rj_nil ?_
   refine hK5 _ _ _ ?_
   refine cj_env (eL 6 rfl eN) ?_
   refine cj_ret ?_
   refine hret _ _ _ ?_
   apply ej_ret Try.results8 (.cons (rv_tmp rfl) .nil) _ [lgB b (some ⟨bd, 0, none⟩) va g, dkB bd u D, dkS u D] (by first | exact Hp.le_refl _ | exact Hp.le_trans hR2 hR3 | exact Hp.le_trans hR23 hR4) rfl
   case hp => rw [show g.addD D i m = (3, g, D) by unfold LG.addD; rw [if_pos f0]]; exact ⟨rfl, u, va, hva, rfl⟩
   case hS => (repeat (first|exact zR _|(apply zP;focus (repeat (first|exact zH _|apply zT)))|apply zD|exact zA _ _))
  ·have f0 : ¬ (g.down || D.down) = true := by simpa using hc8
   refine cj_seq (fun K6 hK6 => ?_)
   refine cj_region ?_
   refine rv0 rfl rfl rfl (y_move rfl) ?_
   refine rv0 rfl rfl rfl (y_move rfl) ?_
   refine rv0 rfl rfl rfl (y_nilCheck rfl) ?_
   refine rv0 rfl rfl rfl (y_fieldAddr (k := 4) Try.underlying58 rfl (n := 1) (by decide) Try.sizeOf25 rfl) ?_
   first | refine rv0 rfl rfl rfl (y_load ⟨Try.isAgg25, Try.sizeOf25⟩ rfl (by (repeat (first|exact zH _|apply zT));done) rfl) ?_ | refine rv0 rfl rfl rfl (y_load_slc ⟨Try.isAgg25, Try.sizeOf25⟩ rfl (by (repeat (first|exact zH _|apply zT));done) rfl) ?_
   refine rv0 rfl rfl rfl (y_lss rfl rfl) ?_
   refine rv0 rfl rfl rfl (y_move rfl) ?_
   refine rj_part 18 rfl (fun hg18 => ?_) (fun hg18 => ?_)
   ·have f1 : i < g.base ∨ i > g.last := .inl (by simpa using hg18)
    refine rj_skip (wn2 rfl rfl rfl rfl rfl) rfl rfl ?_
    refine rj_skip (wn2 rfl rfl rfl rfl rfl) rfl rfl ?_
    refine rj_skip (wn2 rfl rfl rfl rfl rfl) rfl rfl ?_
    refine rj_skip (wn2 rfl rfl rfl rfl rfl) rfl rfl ?_
    refine rv0 rfl rfl rfl (y_pick_t rfl rfl) ?_
    refine rv0 rfl rfl rfl (y_assign rfl) ?_
    refine rj_nil ?_
    refine hK6 _ _ _ ?_
    refine cj_env (eL 0 rfl (eL 1 rfl (eL 2 rfl (eL 11 rfl eN)))) ?_
    refine cj_cond_t rfl ?_
    refine cj_seq (fun K7 hK7 => ?_)
    refine cj_region ?_
    refine rv0 rfl rfl rfl (y_assign rfl) ?_
    refine rj_nil ?_
    refine hK7 _ _ _ ?_
    refine cj_env (eL 6 rfl eN) ?_
    refine cj_ret ?_
    refine hret _ _ _ ?_
    apply ej_ret Try.results8 (.cons (rv_tmp rfl) .nil) _ [lgB b (some ⟨bd, 0, none⟩) va g, dkB bd u D, dkS u D] (by first | exact Hp.le_refl _ | exact Hp.le_trans hR2 hR3 | exact Hp.le_trans hR23 hR4) rfl
    case hp => rw [show g.addD D i m = (1, g, D) by unfold LG.addD; rw [if_neg f0, if_pos f1]]; exact ⟨rfl, u, va, hva, rfl⟩
    case hS => (repeat (first|exact zR _|(apply zP;focus (repeat (first|exact zH _|apply zT)))|apply zD|exact zA _ _))
   ·have f10 : ¬ i < g.base := by simpa using hg18
    refine rj_val (wn1 rfl rfl rfl rfl) rfl rfl (y_move rfl) ?_
    refine rj_val (wn1 rfl rfl rfl rfl) rfl rfl (y_move rfl) ?_
    refine rj_val (wn1 rfl rfl rfl rfl) rfl rfl (y_call Try.call15 rfl (hlq) (by (repeat (first|exact zN _|(apply zS;focus (repeat (first|exact zH _|apply zT))))))) ?_
    refine rj_val (wn1 rfl rfl rfl rfl) rfl rfl (y_gtr rfl rfl) ?_
    refine rv0 rfl rfl rfl (y_pick_f rfl rfl) ?_
    refine rv0 rfl rfl rfl (y_assign rfl) ?_
    refine rj_nil ?_
    refine hK6 _ _ _ ?_
    refine cj_env (eL 0 rfl (eL 1 rfl (eL 2 rfl (eL 11 rfl eN)))) ?_
    refine cj_cond rfl (fun hc11 => ?_) (fun hc11 => ?_)
    ·first | have f1 : i < g.base ∨ i > g.last := .inr (by simpa using hc11) | skip
     refine cj_seq (fun K9 hK9 => ?_)
     refine cj_region ?_
     refine rv0 rfl rfl rfl (y_assign rfl) ?_
     refine rj_nil ?_
     refine hK9 _ _ _ ?_
     refine cj_env (eL 6 rfl eN) ?_
     refine cj_ret ?_
     refine hret _ _ _ ?_
     apply ej_ret Try.results8 (.cons (rv_tmp rfl) .nil) _ [lgB b (some ⟨bd, 0, none⟩) va g, dkB bd u D, dkS u D] (by first | exact Hp.le_refl _ | exact Hp.le_trans hR2 hR3 | exact Hp.le_trans hR23 hR4) rfl
     case hp => rw [show g.addD D i m = (1, g, D) by unfold LG.addD; rw [if_neg f0, if_pos f1]]; exact ⟨rfl, u, va, hva, rfl⟩
     case hS => (repeat (first|exact zR _|(apply zP;focus (repeat (first|exact zH _|apply zT)))|apply zD|exact zA _ _))
    ·have f1 : ¬ (i < g.base ∨ i > g.last) := by (try simp at hc11); omega
     refine cj_skip ?_
     refine hK2 _ _ _ ?_
     refine cj_seq (fun K10 hK10 => ?_)
     refine cj_seq (fun K11 hK11 => ?_)
     refine cj_region ?_
     have hib : g.base ≤ i ∧ i ≤ g.last := by omega
     have hmay : (Rec.add i m).may g := ⟨hib, hmb, hm⟩
     have hu1 : u64B 1 := by unfold u64B; omega
     have hln := Rec.len_add (b := i) (by have := hg.alln; omega) hmb hm
     refine rv0 rfl rfl rfl (y_move rfl) ?_
     refine rv0 rfl rfl rfl (y_call Try.call24 rfl (numN_q _) (by (repeat (first|exact zN _|(apply zS;focus (repeat (first|exact zH _|apply zT))))))) ?_
     refine rv0 rfl rfl rfl (y_move rfl) ?_
     refine rv0 rfl rfl rfl (y_call Try.call24 rfl (numN_q _) (by (repeat (first|exact zN _|(apply zS;focus (repeat (first|exact zH _|apply zT))))))) ?_
     refine rv0 rfl rfl rfl (y_move rfl) ?_
     refine rj_call (wn0 rfl) rfl Try.call25 rfl (list_t m vm hvm hmb hm) (by (repeat (first|exact zN _|(apply zS;focus (repeat (first|exact zH _|apply zT)))))) (fun _ _ _ _ h => h.elim) ?_
     rintro r R2 L' hR2 ⟨⟨cy, rfl, hrep⟩, rfl⟩
     have hrep2 := hrep
     obtain ⟨k0, n0, s0, l0, q0, cap0, _, rfl, _, _⟩ := hrep2.inv
     try simp only [List.cons_append, List.nil_append]
     refine rj_buildSlice (sz := 4) (wn0 rfl) rfl Try.underlying60 Try.sizeOf62 Try.zeroValue62 rfl rfl rfl (by decide) (by decide) (fun bk => ?_)
     refine rj_call (wn0 rfl) rfl Try.call23 rfl (lgWrite_t b bd va u g D n (Rec.add i m) (.slice (some ⟨bk, 0, none⟩) 3 3) [[.int .i64 0, .int .u64 1, .string (str []), .slice none 0 0], [.int .i64 0, .int .u64 i, .string (str []), .slice none 0 0], [.int .i64 k0, .int .u64 n0, .string (str s0), .slice q0 l0.length cap0]] (kids3 (rep_num hu1) (rep_num hi) hrep) hg hmay (by omega) hD hn) (by (repeat (first|exact zN _|(apply zS;focus (repeat (first|exact zH _|apply zT)))))) (fun _ _ _ _ h => h.elim) ?_
     rintro x R3 L' hR3 ⟨rfl, u2, rfl⟩
     unfold lgB lgC
     try simp only [List.cons_append, List.nil_append]
     refine rv0 rfl rfl rfl (y_assign rfl) ?_
     refine rj_nil ?_
     refine hK11 _ _ _ ?_
     refine cj_env (eL 0 rfl (eL 1 rfl (eL 2 rfl (eL 7 rfl eN)))) ?_
     refine cj_seq (fun K12 hK12 => ?_)
     refine cj_region ?_
     refine rv0 rfl rfl rfl (y_move rfl) ?_
     refine rv0 rfl rfl rfl (y_neq rfl rfl) ?_
     refine rj_nil ?_
     refine hK12 _ _ _ ?_
     refine cj_cond rfl (fun hc33 => ?_) (fun hc33 => ?_)
     ·have f2 : ¬ (D.put (Rec.add i m).bytes).1 = 0 := by simpa using hc33
      refine cj_seq (fun K14 hK14 => ?_)
      refine cj_region ?_
      refine rv0 rfl rfl rfl (y_move rfl) ?_
      refine rv0 rfl rfl rfl (y_assign rfl) ?_
      refine rj_nil ?_
      refine hK14 _ _ _ ?_
      refine cj_env (eL 6 rfl eN) ?_
      refine cj_ret ?_
      refine hret _ _ _ ?_
      apply ej_ret Try.results8 (.cons (rv_tmp rfl) .nil) _ [lgB b (some ⟨bd, 0, none⟩) va { g with down := or g.down (!decide ((D.put (Rec.add i m).bytes).1 = 0)) }, dkB bd u2 (D.put (Rec.add i m).bytes).2, dkS u2 (D.put (Rec.add i m).bytes).2] (by first | exact Hp.le_refl _ | exact Hp.le_trans hR2 hR3 | exact Hp.le_trans hR23 hR4) rfl
      case hp => rw [show g.addD D i m = ((D.put (Rec.add i m).bytes).1, { g with down := true }, (D.put (Rec.add i m).bytes).2) by unfold LG.addD; rw [if_neg f0, if_neg f1, if_neg f2]]; refine ⟨rfl, u2, va, (hva.mono hR2).mono hR3, ?_⟩; simp [f2]
      case hS => (repeat (first|exact zR _|(apply zP;focus (repeat (first|exact zH _|apply zT)))|apply zD|exact zA _ _))
     ·have f2 : (D.put (Rec.add i m).bytes).1 = 0 := by simpa using hc33
      have hR23 := Hp.le_trans hR2 hR3
      obtain ⟨g2, hg2⟩ : ∃ g2 : LG, g2 = { g with down := or g.down (!decide ((D.put (Rec.add i m).bytes).1 = 0)) } := ⟨_, rfl⟩
      have hgd : g2 = g := by rw [hg2]; simp [f2]
      refine cj_skip ?_
      refine hK10 _ _ _ ?_
      refine cj_env (eL 0 rfl (eL 1 rfl (eL 2 rfl eN))) ?_
      refine cj_seq (fun K15 hK15 => ?_)
      refine cj_region ?_
      refine rv0 rfl rfl rfl (y_move rfl) ?_
      refine rv0 rfl rfl rfl (y_move rfl) ?_
      refine rv0 rfl rfl rfl (y_move rfl) ?_
      refine rj_turn (A := blk b [.pointer (some ⟨bd, 0, none⟩), .bool (or g.down (!decide ((D.put (Rec.add i m).bytes).1 = 0))), .int .u64 g.term, .int .i64 g.vote, .int .u64 g.base, .int .u64 g.baseT, .string (str g.state), va] 58) (B := lgB b (some ⟨bd, 0, none⟩) va g) (by (repeat (first|exact zH _|apply zT));done) (fun h hh => by simpa [f2, lgB, lgC] using hh) ?_
      refine rj_call (wn0 rfl) rfl Try.call26 rfl (lgAdd0_t b (some ⟨bd, 0, none⟩) va vm g i m hg hib (hva.mono hR23) (hvm.mono hR23) (by omega)) (by (repeat (first|exact zN _|(apply zS;focus (repeat (first|exact zH _|apply zT)))))) (fun _ _ _ _ h => h.elim) ?_
      rintro x R4 L' hR4 ⟨va2, hva2, rfl⟩
      unfold lgB lgC
      try simp only [List.cons_append, List.nil_append]
      refine rj_nil ?_
      refine hK15 _ _ _ ?_
      refine cj_env eN ?_
      refine cj_seq (fun K16 hK16 => ?_)
      refine cj_region ?_
      refine rv0 rfl rfl rfl (y_assign rfl) ?_
      refine rj_nil ?_
      refine hK16 _ _ _ ?_
      refine cj_ret ?_
      refine hret _ _ _ ?_
      apply ej_ret Try.results8 (.cons (rv_tmp rfl) .nil) _ [lgB b (some ⟨bd, 0, none⟩) va2 (g.play (.add i m)), dkB bd u2 (D.put (Rec.add i m).bytes).2, dkS u2 (D.put (Rec.add i m).bytes).2] (by first | exact Hp.le_refl _ | exact Hp.le_trans hR2 hR3 | exact Hp.le_trans hR23 hR4) rfl
      case hp => rw [show g.addD D i m = (0, g.play (.add i m), (D.put (Rec.add i m).bytes).2) by unfold LG.addD; rw [if_neg f0, if_neg f1, if_pos f2]]; exact ⟨rfl, u2, va2, hva2, rfl⟩
      case hS => (repeat (first|exact zR _|(apply zP;focus (repeat (first|exact zH _|apply zT)))|apply zD|exact zA _ _))
end V
end Go.Proofs.Ytcgjlhhfldkdaaa
