/- Parts that the texts behind stand on: T8c, T8d, T8e, T8f, T8g, T8k, V21, T9s, T9p, V16, T9a. -/
import Derived.Test.YtjdbigplednihaaGreatWL9Wins1
import Derived.MapKept
import Derived.Laws.IdiomRangeMap
set_option linter.unusedSimpArgs false
set_option linter.unusedVariables false
set_option maxRecDepth 100000
namespace Go.Proofs.YtjdbigplednihaaGreat
open Go.RowKit
namespace V
set_option maxHeartbeats 4000000
def LG.setTermD (g : LG) (D : DK) (t v : Int) : Int × LG × DK :=
  if (g.down || D.down) = true then (3, g, D) else if t < g.term ∨ v < -1 then (1, g, D)
  else if (D.put (Rec.term t v).bytes).1 = 0 then (0, { g with term := t, vote := v }, (D.put (Rec.term t v).bytes).2) else ((D.put (Rec.term t v).bytes).1, { g with down := true }, (D.put (Rec.term t v).bytes).2)
def LG.addD (g : LG) (D : DK) (b : Int) (m : List Ent) : Int × LG × DK :=
  if (g.down || D.down) = true then (3, g, D) else if b < g.base ∨ b > g.last then (1, g, D)
  else if (D.put (Rec.add b m).bytes).1 = 0 then (0, g.play (.add b m), (D.put (Rec.add b m).bytes).2) else ((D.put (Rec.add b m).bytes).1, { g with down := true }, (D.put (Rec.add b m).bytes).2)
theorem lgSetTerm_t {R : Hp} (b bd : Nat) (va u : Value) (g : LG) (D : DK) (m : Nat) (t vt : Int) (hg : g.ok) (ht : u64B t) (hv : vt < 9223372036854775807) (hv2 : -9223372036854775808 ≤ vt) (hvo : va.oneCell' = true) (hD : D.ok m) (hm : m ≤ 900000000) :
    Tri Tryz.prog 40 [.pointer (some ⟨b, 0, none⟩), .int .u64 t, .int .i64 vt] R [lgB b (some ⟨bd, 0, none⟩) va g, dkB bd u D, dkS u D]
      (fun x R' L' => x = .int .i64 (g.setTermD D t vt).1 ∧ ∃ u', L' = [lgB b (some ⟨bd, 0, none⟩) va (g.setTermD D t vt).2.1, dkB bd u' (g.setTermD D t vt).2.2, dkS u' (g.setTermD D t vt).2.2]) := by
  have hdq := lgDown_q (R := R) b bd va u g D
  refine tri_of Tryz.func40 rfl Tryz.ntmps40 rfl (fun σ F Q hret hend hpan => ?_)
  try simp only [List.cons_append, List.nil_append]
  refine cj_env (eL 0 rfl (eL 1 rfl (eL 2 rfl eN))) ?_
  unfold lgB lgC at hdq ⊢
  refine cj_seq (fun K1 hK1 => ?_)
  refine cj_region ?_
  refine rv0 rfl rfl rfl (y_assign rfl) ?_
  refine rj_nil ?_
  refine hK1 _ _ _ ?_
  refine cj_seq (fun K2 hK2 => ?_)
  refine cj_block ?_
  refine cj_seq (fun K3 hK3 => ?_)
  refine cj_region ?_
  refine rv0 rfl rfl rfl (y_move rfl) ?_
  refine rv0 rfl rfl rfl (y_call Tryz.call59 rfl (hdq) (by (repeat (first|exact zN _|(apply zS;focus (repeat (first|exact zH _|apply zT))))))) ?_
  refine rv0 rfl rfl rfl (y_assign rfl) ?_
  refine rj_nil ?_
  refine hK3 _ _ _ ?_
  refine cj_env (eL 0 rfl (eL 1 rfl (eL 2 rfl (eL 8 rfl eN)))) ?_
  refine cj_cond rfl (fun hc8 => ?_) (fun hc8 => ?_)
  ·have f0 : (g.down || D.down) = true := hc8
   refine cj_seq (fun K5 hK5 => ?_)
   refine cj_region ?_
   refine rv0 rfl rfl rfl (y_assign rfl) ?_
   refine rj_nil ?_
   refine hK5 _ _ _ ?_
   refine cj_env (eL 6 rfl eN) ?_
   refine cj_ret ?_
   refine hret _ _ _ ?_
   apply ej_ret Tryz.results40 (.cons (rv_tmp rfl) .nil) _ [lgB b (some ⟨bd, 0, none⟩) va g, dkB bd u D, dkS u D] (by first | exact Hp.le_refl _ | exact hR2) rfl
   case hp => rw [show g.setTermD D t vt = (3, g, D) by unfold LG.setTermD; rw [if_pos f0]]; exact ⟨rfl, u, rfl⟩
   case hS => (repeat (first|exact zR _|(apply zP;focus (repeat (first|exact zH _|apply zT)))|apply zD|exact zA _ _))
  ·have f0 : ¬ (g.down || D.down) = true := by simpa using hc8
   refine cj_seq (fun K6 hK6 => ?_)
   refine cj_region ?_
   refine rv0 rfl rfl rfl (y_move rfl) ?_
   refine rv0 rfl rfl rfl (y_move rfl) ?_
   refine rv0 rfl rfl rfl (y_nilCheck rfl) ?_
   refine rv0 rfl rfl rfl (y_fieldAddr (k := 2) Tryz.underlying87 rfl (n := 1) (by decide) Tryz.sizeOf31 rfl) ?_
   first | refine rv0 rfl rfl rfl (y_load ⟨Tryz.isAgg31, Tryz.sizeOf31⟩ rfl (by (repeat (first|exact zH _|apply zT));done) rfl) ?_ | refine rv0 rfl rfl rfl (y_load_slc ⟨Tryz.isAgg31, Tryz.sizeOf31⟩ rfl (by (repeat (first|exact zH _|apply zT));done) rfl) ?_
   refine rv0 rfl rfl rfl (y_lss rfl rfl) ?_
   refine rv0 rfl rfl rfl (y_move rfl) ?_
   refine rj_part 18 rfl (fun hg18 => ?_) (fun hg18 => ?_)
   ·have f1 : t < g.term ∨ vt < -1 := .inl (by simpa using hg18)
    refine rj_skip (wn2 rfl rfl rfl rfl rfl) rfl rfl ?_
    refine rj_skip (wn2 rfl rfl rfl rfl rfl) rfl rfl ?_
    refine rv0 rfl rfl rfl (y_pick_t rfl rfl) ?_
    refine rv0 rfl rfl rfl (y_assign rfl) ?_
    refine rj_nil ?_
    refine hK6 _ _ _ ?_
    refine cj_env (eL 0 rfl (eL 1 rfl (eL 2 rfl (eL 11 rfl eN)))) ?_
    refine cj_cond_t rfl ?_
    refine cj_seq (fun K7 hK7 => ?_)
    refine cj_region ?_
    refine rv0 rfl rfl rfl (y_assign rfl) ?_
    refine rj_nil ?_
    refine hK7 _ _ _ ?_
    refine cj_env (eL 6 rfl eN) ?_
    refine cj_ret ?_
    refine hret _ _ _ ?_
    apply ej_ret Tryz.results40 (.cons (rv_tmp rfl) .nil) _ [lgB b (some ⟨bd, 0, none⟩) va g, dkB bd u D, dkS u D] (by first | exact Hp.le_refl _ | exact hR2) rfl
    case hp => rw [show g.setTermD D t vt = (1, g, D) by unfold LG.setTermD; rw [if_neg f0, if_pos f1]]; exact ⟨rfl, u, rfl⟩
    case hS => (repeat (first|exact zR _|(apply zP;focus (repeat (first|exact zH _|apply zT)))|apply zD|exact zA _ _))
   ·have f10 : ¬ t < g.term := by simpa using hg18
    refine rj_val (wn1 rfl rfl rfl rfl) rfl rfl (y_move rfl) ?_
    refine rj_val (wn1 rfl rfl rfl rfl) rfl rfl (y_lss rfl rfl) ?_
    refine rv0 rfl rfl rfl (y_pick_f rfl rfl) ?_
    refine rv0 rfl rfl rfl (y_assign rfl) ?_
    refine rj_nil ?_
    refine hK6 _ _ _ ?_
    refine cj_env (eL 0 rfl (eL 1 rfl (eL 2 rfl (eL 11 rfl eN)))) ?_
    refine cj_cond rfl (fun hc11 => ?_) (fun hc11 => ?_)
    ·first | have f1 : t < g.term ∨ vt < -1 := .inr (by simpa using hc11) | skip
     refine cj_seq (fun K9 hK9 => ?_)
     refine cj_region ?_
     refine rv0 rfl rfl rfl (y_assign rfl) ?_
     refine rj_nil ?_
     refine hK9 _ _ _ ?_
     refine cj_env (eL 6 rfl eN) ?_
     refine cj_ret ?_
     refine hret _ _ _ ?_
     apply ej_ret Tryz.results40 (.cons (rv_tmp rfl) .nil) _ [lgB b (some ⟨bd, 0, none⟩) va g, dkB bd u D, dkS u D] (by first | exact Hp.le_refl _ | exact hR2) rfl
     case hp => rw [show g.setTermD D t vt = (1, g, D) by unfold LG.setTermD; rw [if_neg f0, if_pos f1]]; exact ⟨rfl, u, rfl⟩
     case hS => (repeat (first|exact zR _|(apply zP;focus (repeat (first|exact zH _|apply zT)))|apply zD|exact zA _ _))
    ·have f1 : ¬ (t < g.term ∨ vt < -1) := by (try simp at hc11); omega
     refine cj_skip ?_
     refine hK2 _ _ _ ?_
     refine cj_seq (fun K10 hK10 => ?_)
     refine cj_seq (fun K11 hK11 => ?_)
     refine cj_region ?_
     have hvb : -1 ≤ vt ∧ vt < 9223372036854775807 := by omega
     have hmay : (Rec.term t vt).may g := ⟨ht, hvb.1, hvb.2⟩
     have hv1 : u64B (vt + 1) := by unfold u64B; omega
     have hu0 : u64B 0 := by unfold u64B; omega
     refine rv0 rfl rfl rfl (y_move rfl) ?_
     refine rv0 rfl rfl rfl (y_call Tryz.call67 rfl (numN_q _) (by (repeat (first|exact zN _|(apply zS;focus (repeat (first|exact zH _|apply zT))))))) ?_
     refine rv0 rfl rfl rfl (y_move rfl) ?_
     refine rv0 rfl rfl rfl (y_call Tryz.call67 rfl (numN_q _) (by (repeat (first|exact zN _|(apply zS;focus (repeat (first|exact zH _|apply zT))))))) ?_
     refine rv0 rfl rfl rfl (y_move rfl) ?_
     refine rv0 rfl rfl rfl ((y_add64 rfl rfl (by omega))) ?_
     refine rv0 rfl rfl rfl ((y_conv_in Tryz.underlying3 Tryz.underlying31 rfl (by (simp only [IntKind.min, IntKind.max, IntKind.signed, IntKind.bits, Bool.false_eq_true, ite_false, ite_true]; omega)))) ?_
     refine rv0 rfl rfl rfl (y_call Tryz.call67 rfl (numN_q _) (by (repeat (first|exact zN _|(apply zS;focus (repeat (first|exact zH _|apply zT))))))) ?_
     refine rj_buildSlice (sz := 4) (wn0 rfl) rfl Tryz.underlying104 Tryz.sizeOf106 Tryz.zeroValue106 rfl rfl rfl (by decide) (by decide) (fun bk => ?_)
     refine rj_call (wn0 rfl) rfl Tryz.call66 rfl (lgWrite_t b bd va u g D m (Rec.term t vt) (.slice (some ⟨bk, 0, none⟩) 3 3) [[.int .i64 0, .int .u64 0, .string (str []), .slice none 0 0], [.int .i64 0, .int .u64 t, .string (str []), .slice none 0 0], [.int .i64 0, .int .u64 (vt + 1), .string (str []), .slice none 0 0]] (kids3 (rep_num hu0) (rep_num ht) (rep_num hv1)) hg hmay (Nat.le_trans (Rec.len_term ht hvb) (by decide)) hD hm) (by (repeat (first|exact zN _|(apply zS;focus (repeat (first|exact zH _|apply zT)))))) (fun _ _ _ _ h => h.elim) ?_
     rintro x R2 L' hR2 ⟨rfl, u2, rfl⟩
     unfold lgB lgC
     try simp only [List.cons_append, List.nil_append]
     refine rv0 rfl rfl rfl (y_assign rfl) ?_
     refine rj_nil ?_
     refine hK11 _ _ _ ?_
     refine cj_env (eL 0 rfl (eL 1 rfl (eL 2 rfl (eL 7 rfl eN)))) ?_
     refine cj_seq (fun K12 hK12 => ?_)
     refine cj_region ?_
     refine rv0 rfl rfl rfl (y_move rfl) ?_
     refine rv0 rfl rfl rfl (y_neq rfl rfl) ?_
     refine rj_nil ?_
     refine hK12 _ _ _ ?_
     refine cj_cond rfl (fun hc33 => ?_) (fun hc33 => ?_)
     ·have f2 : ¬ (D.put (Rec.term t vt).bytes).1 = 0 := by simpa using hc33
      refine cj_seq (fun K14 hK14 => ?_)
      refine cj_region ?_
      refine rv0 rfl rfl rfl (y_move rfl) ?_
      refine rv0 rfl rfl rfl (y_assign rfl) ?_
      refine rj_nil ?_
      refine hK14 _ _ _ ?_
      refine cj_env (eL 6 rfl eN) ?_
      refine cj_ret ?_
      refine hret _ _ _ ?_
      apply ej_ret Tryz.results40 (.cons (rv_tmp rfl) .nil) _ [lgB b (some ⟨bd, 0, none⟩) va { g with down := or g.down (!decide ((D.put (Rec.term t vt).bytes).1 = 0)) }, dkB bd u2 (D.put (Rec.term t vt).bytes).2, dkS u2 (D.put (Rec.term t vt).bytes).2] (by first | exact Hp.le_refl _ | exact hR2) rfl
      case hp => rw [show g.setTermD D t vt = ((D.put (Rec.term t vt).bytes).1, { g with down := true }, (D.put (Rec.term t vt).bytes).2) by unfold LG.setTermD; rw [if_neg f0, if_neg f1, if_neg f2]]; refine ⟨rfl, u2, ?_⟩; simp [f2]
      case hS => (repeat (first|exact zR _|(apply zP;focus (repeat (first|exact zH _|apply zT)))|apply zD|exact zA _ _))
     ·have f2 : (D.put (Rec.term t vt).bytes).1 = 0 := by simpa using hc33
      refine cj_skip ?_
      refine hK10 _ _ _ ?_
      refine cj_env (eL 0 rfl (eL 1 rfl (eL 2 rfl eN))) ?_
      refine cj_seq (fun K15 hK15 => ?_)
      refine cj_region ?_
      refine rv0 rfl rfl rfl (y_move rfl) ?_
      refine rv0 rfl rfl rfl (y_move rfl) ?_
      refine rv0 rfl rfl rfl (y_move rfl) ?_
      refine rv0 rfl rfl rfl (y_move rfl) ?_
      refine rv0 rfl rfl rfl (y_nilCheck rfl) ?_
      refine rv0 rfl rfl rfl (y_fieldAddr (k := 2) Tryz.underlying87 rfl (n := 1) (by decide) Tryz.sizeOf31 rfl) ?_
      refine rj_store ⟨Tryz.isAgg31, Tryz.sizeOf31⟩ (wn0 rfl) rfl rfl (by (first | rfl | assumption | (apply cutV_one; assumption))) (by (repeat (first|exact zH _|apply zT));done) rfl rfl ?_
      refine rv0 rfl rfl rfl (y_nilCheck rfl) ?_
      refine rv0 rfl rfl rfl (y_fieldAddr (k := 3) Tryz.underlying87 rfl (n := 1) (by decide) Tryz.sizeOf3 rfl) ?_
      refine rj_store ⟨Tryz.isAgg3, Tryz.sizeOf3⟩ (wn0 rfl) rfl rfl (by (first | rfl | assumption | (apply cutV_one; assumption))) (by (repeat (first|exact zH _|apply zT));done) rfl rfl ?_
      refine rj_nil ?_
      refine hK15 _ _ _ ?_
      refine cj_env eN ?_
      refine cj_seq (fun K16 hK16 => ?_)
      refine cj_region ?_
      refine rv0 rfl rfl rfl (y_assign rfl) ?_
      refine rj_nil ?_
      refine hK16 _ _ _ ?_
      refine cj_ret ?_
      refine hret _ _ _ ?_
      apply ej_ret Tryz.results40 (.cons (rv_tmp rfl) .nil) _ [lgB b (some ⟨bd, 0, none⟩) va { g with term := t, vote := vt, down := or g.down (!decide ((D.put (Rec.term t vt).bytes).1 = 0)) }, dkB bd u2 (D.put (Rec.term t vt).bytes).2, dkS u2 (D.put (Rec.term t vt).bytes).2] (by first | exact Hp.le_refl _ | exact hR2) rfl
      case hp => rw [show g.setTermD D t vt = (0, { g with term := t, vote := vt }, (D.put (Rec.term t vt).bytes).2) by unfold LG.setTermD; rw [if_neg f0, if_neg f1, if_pos f2]]; refine ⟨rfl, u2, ?_⟩; simp [f2]
      case hS => (repeat (first|exact zR _|(apply zP;focus (repeat (first|exact zH _|apply zT)))|apply zD|exact zA _ _))
theorem FrX.sub {α : Type} {T : Elt α} {R : Hp} {l : List α} {q : Option Addr} {cap : Nat} (h : FrX T R l (.slice q l.length cap)) {a b : Nat} (hab : a ≤ b) (hb : b ≤ l.length) : FrX T R ((l.drop a).take (b - a)) (.slice (partAddr q a cap T.sz) (b - a) (cap - a)) := by
  obtain ⟨css, hE, q', cap', e, h1, h2, h3⟩ := h
  cases e
  have hlen : ((l.drop a).take (b - a)).length = b - a := by simp; omega
  refine ⟨(css.drop a).take (b - a), (hE.drop a).take (b - a), partAddr q a cap T.sz, cap - a, by rw [hlen], by rw [hlen]; omega, by omega, ?_⟩
  rw [hlen]
  rcases Nat.eq_zero_or_pos (b - a) with h0 | h0
  · exact .inl h0
  · rcases h3 with h3 | ⟨b0, off, rfl, hc⟩
    · omega
    · refine .inr ⟨b0, off + a * T.sz, by unfold partAddr; rw [if_neg (by omega)]; simp [add_mk], fun j u hj => ?_⟩
      rw [← ftake (n := T.sz) _ (fun c hc => hE.len c (List.mem_of_mem_drop hc)), ← fdrop (n := T.sz) _ hE.len, List.getElem?_take] at hj
      split at hj
      · rw [List.getElem?_drop] at hj
        rw [Nat.add_assoc]; exact hc _ u hj
      · cases hj
def entsC (l : List Ent) : List Value := (l.map entC).flatten
theorem ents_css {R : Hp} {l : List Ent} {css : List (List Value)} (h : Els entE R l css) : css = l.map entC := by
  apply List.ext_getElem?
  intro i
  rw [List.getElem?_map]
  by_cases hi : i < l.length
  · have h1 : l[i]? = some l[i] := List.getElem?_eq_getElem hi
    have h2 : css[i]? = some (css[i]'(by rw [h.1]; exact hi)) := List.getElem?_eq_getElem (by rw [h.1]; exact hi)
    have := h.2 i _ _ h1 h2
    rw [h1, h2]; simpa [entE] using this
  · rw [List.getElem?_eq_none (by rw [h.1]; omega), List.getElem?_eq_none (by omega)]; rfl
theorem entsEls {R : Hp} (l : List Ent) : Els entE R l (l.map entC) := ⟨by simp, fun i x cs h1 h2 => by rw [List.getElem?_map, h1] at h2; simpa [entE] using h2.symm⟩
theorem entsFr {R : Hp} {l : List Ent} {v : Value} (h : FrozenS R v l.length (entsC l)) : FrX entE R l v := FrozenS.frx h (entsEls l)
theorem entsC_app (l m : List Ent) : entsC l ++ entsC m = entsC (l ++ m) := by simp [entsC]
theorem FrX.ents {R : Hp} {l : List Ent} {v : Value} (h : FrX entE R l v) : FrS R v l.length (l.map entC).flatten := by
  obtain ⟨css, h1, h2⟩ := h
  rw [ents_css h1] at h2
  exact h2
theorem eclone_t {R : Hp} (l : List Ent) (v : Value) (hl : FrX entE R l v) (hn : l.length ≤ 1000000) : Tri Tryz.prog 106 [v] R [] (fun r R' L' => R = R' ∧ r.oneCell' = true ∧ L' = [slc 60 2 r l.length (entsC l)]) := by
  have hfs := hl.ents
  obtain ⟨q, cap, rfl, h1, h2, h3⟩ := hfs
  have hfs := hl.ents
  refine tri_of Tryz.func106 rfl Tryz.ntmps106 rfl (fun σ F Q hret hend hpan => ?_)
  try simp only [List.cons_append, List.nil_append]
  refine cj_env (eL 0 rfl eN) ?_
  refine cj_seq (fun K1 hK1 => ?_)
  refine cj_region ?_
  refine rv0 rfl rfl rfl (y_assign rfl) ?_
  refine rj_nil ?_
  refine hK1 _ _ _ ?_
  refine cj_seq (fun K2 hK2 => ?_)
  refine cj_seq (fun K3 hK3 => ?_)
  refine cj_region ?_
  refine rv0 rfl rfl rfl (y_move rfl) ?_
  refine rv0 rfl rfl rfl ((y_sleql Tryz.underlying32 rfl rfl)) ?_
  refine rj_nil ?_
  refine hK3 _ _ _ ?_
  refine cj_cond rfl (fun hc4 => ?_) (fun hc4 => ?_)
  ·obtain rfl : q = none := by simpa using hc4
   obtain rfl : l = [] := by rcases h3 with h | ⟨b, off, h, _⟩; exact List.eq_nil_of_length_eq_zero h; cases h
   refine cj_seq (fun K5 hK5 => ?_)
   refine cj_region ?_
   refine rj_add (A := slc 60 2 (.slice none 0 0) 0 []) (slc_nil _ _) ?_
   refine rv0 rfl rfl rfl (y_assign rfl) ?_
   refine rj_nil ?_
   refine hK5 _ _ _ ?_
   refine cj_env (eL 2 rfl eN) ?_
   refine cj_ret ?_
   refine hret _ _ _ ?_
   apply ej_ret Tryz.results106 (.cons (rv_tmp rfl) .nil) _ [slc 60 2 (.slice none 0 0) 0 []] (by (first | exact Hp.le_refl _ | assumption | exact Hp.le_trans ‹_› ‹_›)) rfl
   case hp => exact ⟨rfl, rfl, rfl⟩
   case hS => (repeat (first|exact zR _|(apply zP;focus (repeat (first|exact zH _|apply zT)))|apply zD|exact zA _ _))
  ·try simp only [dT, dF, nT, nF, tF, fT] at hc4
   refine cj_skip ?_
   refine hK2 _ _ _ ?_
   refine cj_env (eL 0 rfl eN) ?_
   refine cj_seq (fun K6 hK6 => ?_)
   refine cj_region ?_
   refine rj_buildSlice (sz := 2) (wn0 rfl) rfl Tryz.underlying32 Tryz.sizeOf60 Tryz.zeroValue60 rfl rfl rfl (by decide) (by decide) (fun b5 => ?_)
   refine rv0 rfl rfl rfl (y_move rfl) ?_
   refine rj_append (sz := 2) (by_ := 24) ⟨Tryz.underlying32, _, _, rfl, rfl, rfl, rfl, rfl⟩ (wn0 rfl) rfl rfl rfl (by (repeat (first|exact zH _|apply zT));done) ((FrX.src (T := entE) Tryz.underlying32 (entsEls l) hfs)) rfl (by (first | omega | (dsimp only; omega) | (simp; done) | (simp; omega))) (by simp only [maxLen]; omega) (fun v7 ho7 hh7 => ?_)
   rw [Nat.zero_add, List.nil_append]
   refine rv0 rfl rfl rfl (y_assign rfl) ?_
   refine rj_nil ?_
   refine hK6 _ _ _ ?_
   refine cj_env (eL 2 rfl eN) ?_
   refine cj_ret ?_
   refine hret _ _ _ ?_
   apply ej_ret Tryz.results106 (.cons (rv_tmp rfl) .nil) _ [slc 60 2 v7 l.length (entsC l)] (by (first | exact Hp.le_refl _ | assumption | exact Hp.le_trans ‹_› ‹_›)) rfl
   case hp => exact ⟨rfl, by assumption, rfl⟩
   case hS => (repeat (first|exact zR _|(apply zP;focus (repeat (first|exact zH _|apply zT)))|apply zD|exact zA _ _))
theorem lgAdd0_t {R : Hp} (b : Nat) (d : Option Addr) (va vm : Value) (g : LG) (i : Int) (m : List Ent) (hg : g.ok) (hi : g.base ≤ i ∧ i ≤ g.last) (hva : FrX entE R g.all va) (hvm : FrX entE R m vm) (hm : m.length ≤ 1000000) :
    Tri Tryz.prog 94 [.pointer (some ⟨b, 0, none⟩), .int .u64 i, vm] R [lgB b d va g]
      (fun x R' L' => ∃ va', FrX entE R' (g.play (.add i m)).all va' ∧ L' = [lgB b d va' (g.play (.add i m))]) := by
  obtain ⟨q, cap, rfl, hq1, hq2⟩ := hva.shape
  have hvs := hvm.ents
  obtain ⟨qm, capm, rfl, _, _⟩ := hvm.shape
  have hb := hg.base
  have hn := hg.alln
  have hle : g.last = g.base + g.all.length := rfl
  obtain ⟨k, hk⟩ : ∃ k : Nat, i - g.base = k := ⟨(i - g.base).toNat, by omega⟩
  have hsub := hva.sub (a := 0) (b := k) (by omega) (by omega)
  rw [List.drop_zero, Nat.sub_zero] at hsub
  have hkl : (g.all.take k).length ≤ 1000000 := by simp; omega
  have hall : (g.play (.add i m)).all = g.all.take k ++ m := by unfold LG.play; simp [hk]
  refine tri_of Tryz.func94 rfl Tryz.ntmps94 rfl (fun σ F Q hret hend hpan => ?_)
  try simp only [List.cons_append, List.nil_append]
  refine cj_env (eL 0 rfl (eL 1 rfl (eL 2 rfl eN))) ?_
  unfold lgB lgC
  refine cj_mixg (L := [blk b [.pointer d, .bool g.down, .int .u64 g.term, .int .i64 g.vote, .int .u64 g.base, .int .u64 g.baseT, .string (str g.state), .slice q g.all.length cap] 87]) [0, 1, 2, 3, 4, 5, 6, 7, 8, 9, 10, 11, 13] [12, 14] [15, 16, 17] _ (by (repeat (first|exact zR _|(apply zP;focus (repeat (first|exact zH _|apply zT)))|apply zD|exact zA _ _))) (by kernel_rfl) (by kernel_rfl) (by kernel_rfl) rfl ?_
  refine fj_val rfl rfl rfl (wn0 rfl) (fun R1 hR1 G => (y_move rfl)) ?_
  refine fj_val rfl rfl rfl (wn0 rfl) (fun R1 hR1 G => (y_move rfl)) ?_
  refine fj_val rfl rfl rfl (wn0 rfl) (fun R1 hR1 G => (y_nilCheck rfl)) ?_
  refine fj_val rfl rfl rfl (wn0 rfl) (fun R1 hR1 G => (y_fieldAddr (k := 7) Tryz.underlying87 rfl (n := 1) (by decide) Tryz.sizeOf32 rfl)) ?_
  first | refine fj_val rfl rfl rfl (wn0 rfl) (fun R1 hR1 G => (y_load ⟨Tryz.isAgg32, Tryz.sizeOf32⟩ rfl (by (repeat (first|exact zH _|apply zT));done) rfl)) ?_ | refine fj_val rfl rfl rfl (wn0 rfl) (fun R1 hR1 G => (y_load_slc ⟨Tryz.isAgg32, Tryz.sizeOf32⟩ rfl (by (repeat (first|exact zH _|apply zT));done) rfl)) ?_
  refine fj_val rfl rfl rfl (wn0 rfl) (fun R1 hR1 G => (y_move rfl)) ?_
  refine fj_val rfl rfl rfl (wn0 rfl) (fun R1 hR1 G => (y_move rfl)) ?_
  refine fj_val rfl rfl rfl (wn0 rfl) (fun R1 hR1 G => (y_nilCheck rfl)) ?_
  refine fj_val rfl rfl rfl (wn0 rfl) (fun R1 hR1 G => (y_fieldAddr (k := 4) Tryz.underlying87 rfl (n := 1) (by decide) Tryz.sizeOf31 rfl)) ?_
  first | refine fj_val rfl rfl rfl (wn0 rfl) (fun R1 hR1 G => (y_load ⟨Tryz.isAgg31, Tryz.sizeOf31⟩ rfl (by (repeat (first|exact zH _|apply zT));done) rfl)) ?_ | refine fj_val rfl rfl rfl (wn0 rfl) (fun R1 hR1 G => (y_load_slc ⟨Tryz.isAgg31, Tryz.sizeOf31⟩ rfl (by (repeat (first|exact zH _|apply zT));done) rfl)) ?_
  refine fj_val rfl rfl rfl (wn0 rfl) (fun R1 hR1 G => (Yld.to (u := .int .u64 (k : Int)) (y_subu rfl rfl (by omega)) (by rw [hk]))) ?_
  refine fj_val rfl rfl rfl (wn0 rfl) (fun R1 hR1 G => (y_slice_sl (l := 0) (h := k) Tryz.underlying32 Tryz.sizeOf60 rfl rfl ⟨.u64, rfl⟩ (by omega))) ?_
  refine fj_val rfl rfl rfl (wn0 rfl) (fun R1 hR1 G => (y_move rfl)) ?_
  refine fj_nil ?_
  refine xj_rj rfl ?_
  try simp only [List.cons_append, List.nil_append, List.append_nil]
  refine rj_call (wn0 rfl) rfl Tryz.call106 rfl (eclone_t (g.all.take k) _ hsub hkl) (by (repeat (first|exact zN _|(apply zS;focus (repeat (first|exact zH _|apply zT)))))) (fun _ _ _ _ h => h.elim) ?_
  rintro r R2 L' hR2 ⟨rfl, hro, rfl⟩
  try simp only [List.cons_append, List.nil_append]
  refine rj_xk (by (first | exact Hp.le_refl _ | assumption | exact Hp.le_trans ‹_› ‹_›)) (by (repeat (first|exact zR _|(apply zP;focus (repeat (first|exact zH _|apply zT)))|apply zD|exact zA _ _))) ?_
  refine xj_rj rfl ?_
  try simp only [List.cons_append, List.nil_append, List.append_nil]
  refine rj_append (sz := 2) (by_ := 24) ⟨Tryz.underlying32, _, _, rfl, rfl, rfl, rfl, rfl⟩ (wn0 rfl) rfl rfl rfl (by (repeat (first|exact zH _|apply zT));done) ((FrX.src (T := entE) Tryz.underlying32 (entsEls m) hvs)) rfl (by (first | omega | (dsimp only; omega) | (simp; done) | (simp; omega))) (by simp only [maxLen]; omega) (fun v20 ho20 hh20 => ?_)
  rw [show entsC (g.all.take k) ++ (m.map entC).flatten = entsC (g.all.take k ++ m) from entsC_app _ _, ← List.length_append]
  refine rj_xk (by (first | exact Hp.le_refl _ | assumption | exact Hp.le_trans ‹_› ‹_›)) (by (repeat (first|exact zR _|(apply zP;focus (repeat (first|exact zH _|apply zT)))|apply zD|exact zA _ _))) ?_
  refine xj_nil ?_
  try simp only [List.cons_append, List.nil_append, List.append_nil]
  refine rv0 rfl rfl rfl (y_nilCheck rfl) ?_
  refine rv0 rfl rfl rfl (y_fieldAddr (k := 7) Tryz.underlying87 rfl (n := 1) (by decide) Tryz.sizeOf32 rfl) ?_
  refine rj_store ⟨Tryz.isAgg32, Tryz.sizeOf32⟩ (wn0 rfl) rfl rfl (by (first | rfl | assumption | (apply cutV_one; assumption))) (by (repeat (first|exact zH _|apply zT));done) rfl rfl ?_
  refine rj_freeze (e := 60) (sz := 2) (n := (g.all.take k ++ m).length) (v := v20) (xs := entsC (g.all.take k ++ m)) (by (repeat (first|exact zH _|apply zT));done) (fun R3 hR3 hfr hxl => ?_)
  have hfx := entsFr hfr
  refine rj_nil ?_
  refine hend _ _ _ ?_
  apply ej_end Tryz.results94 .nil _ [lgB b d v20 (g.play (.add i m))] hR3 rfl
  case hp => exact ⟨v20, by rw [hall]; exact hfx, rfl⟩
  case hS => (repeat (first|exact zR _|(apply zP;focus (repeat (first|exact zH _|apply zT)))|apply zD|exact zA _ _))
theorem lgAdd_t {R : Hp} (b bd : Nat) (va u vm : Value) (g : LG) (D : DK) (n : Nat) (i : Int) (m : List Ent) (hg : g.ok) (hi : u64B i) (hva : FrX entE R g.all va) (hvm : FrX entE R m vm) (hm : m.length ≤ 100000) (hmb : ∀ e ∈ m, u64B e.1 ∧ e.2.length ≤ 1000000) (hml : entsLen m ≤ 16000000) (hD : D.ok n) (hn : n ≤ 900000000) :
    Tri Tryz.prog 89 [.pointer (some ⟨b, 0, none⟩), .int .u64 i, vm] R [lgB b (some ⟨bd, 0, none⟩) va g, dkB bd u D, dkS u D]
      (fun x R' L' => x = .int .i64 (g.addD D i m).1 ∧ ∃ u' va', FrX entE R' (g.addD D i m).2.1.all va' ∧ L' = [lgB b (some ⟨bd, 0, none⟩) va' (g.addD D i m).2.1, dkB bd u' (g.addD D i m).2.2, dkS u' (g.addD D i m).2.2]) := by
  have hdq := lgDown_q (R := R) b bd va u g D
  have hlq := lgLast_q (R := R) b (some ⟨bd, 0, none⟩) va g hg hva
  have hvo := hva.one
  have hvmo := hvm.one
  have hb := hg.base
  have hle : g.last = g.base + g.all.length := rfl
  refine tri_of Tryz.func89 rfl Tryz.ntmps89 rfl (fun σ F Q hret hend hpan => ?_)
  try simp only [List.cons_append, List.nil_append]
  refine cj_env (eL 0 rfl (eL 1 rfl (eL 2 rfl eN))) ?_
  unfold lgB lgC at hdq hlq ⊢
  refine cj_seq (fun K1 hK1 => ?_)
  refine cj_region ?_
  refine rv0 rfl rfl rfl (y_assign rfl) ?_
  refine rj_nil ?_
  refine hK1 _ _ _ ?_
  refine cj_seq (fun K2 hK2 => ?_)
  refine cj_block ?_
  refine cj_seq (fun K3 hK3 => ?_)
  refine cj_region ?_
  refine rv0 rfl rfl rfl (y_move rfl) ?_
  refine rv0 rfl rfl rfl (y_call Tryz.call59 rfl (hdq) (by (repeat (first|exact zN _|(apply zS;focus (repeat (first|exact zH _|apply zT))))))) ?_
  refine rv0 rfl rfl rfl (y_assign rfl) ?_
  refine rj_nil ?_
  refine hK3 _ _ _ ?_
  refine cj_env (eL 0 rfl (eL 1 rfl (eL 2 rfl (eL 8 rfl eN)))) ?_
  refine cj_cond rfl (fun hc8 => ?_) (fun hc8 => ?_)
  ·have f0 : (g.down || D.down) = true := hc8
   refine cj_seq (fun K5 hK5 => ?_)
   refine cj_region ?_
   refine rv0 rfl rfl rfl (y_assign rfl) ?_
   refine rj_nil ?_
   refine hK5 _ _ _ ?_
   refine cj_env (eL 6 rfl eN) ?_
   refine cj_ret ?_
   refine hret _ _ _ ?_
   apply ej_ret Tryz.results89 (.cons (rv_tmp rfl) .nil) _ [lgB b (some ⟨bd, 0, none⟩) va g, dkB bd u D, dkS u D] (by first | exact Hp.le_refl _ | exact Hp.le_trans hR2 hR3 | exact Hp.le_trans hR23 hR4) rfl
   case hp => rw [show g.addD D i m = (3, g, D) by unfold LG.addD; rw [if_pos f0]]; exact ⟨rfl, u, va, hva, rfl⟩
   case hS => (repeat (first|exact zR _|(apply zP;focus (repeat (first|exact zH _|apply zT)))|apply zD|exact zA _ _))
  ·have f0 : ¬ (g.down || D.down) = true := by simpa using hc8
   refine cj_seq (fun K6 hK6 => ?_)
   refine cj_region ?_
   refine rv0 rfl rfl rfl (y_move rfl) ?_
   refine rv0 rfl rfl rfl (y_move rfl) ?_
   refine rv0 rfl rfl rfl (y_nilCheck rfl) ?_
   refine rv0 rfl rfl rfl (y_fieldAddr (k := 4) Tryz.underlying87 rfl (n := 1) (by decide) Tryz.sizeOf31 rfl) ?_
   first | refine rv0 rfl rfl rfl (y_load ⟨Tryz.isAgg31, Tryz.sizeOf31⟩ rfl (by (repeat (first|exact zH _|apply zT));done) rfl) ?_ | refine rv0 rfl rfl rfl (y_load_slc ⟨Tryz.isAgg31, Tryz.sizeOf31⟩ rfl (by (repeat (first|exact zH _|apply zT));done) rfl) ?_
   refine rv0 rfl rfl rfl (y_lss rfl rfl) ?_
   refine rv0 rfl rfl rfl (y_move rfl) ?_
   refine rj_part 18 rfl (fun hg18 => ?_) (fun hg18 => ?_)
   ·have f1 : i < g.base ∨ i > g.last := .inl (by simpa using hg18)
    refine rj_skip (wn2 rfl rfl rfl rfl rfl) rfl rfl ?_
    refine rj_skip (wn2 rfl rfl rfl rfl rfl) rfl rfl ?_
    refine rj_skip (wn2 rfl rfl rfl rfl rfl) rfl rfl ?_
    refine rj_skip (wn2 rfl rfl rfl rfl rfl) rfl rfl ?_
    refine rv0 rfl rfl rfl (y_pick_t rfl rfl) ?_
    refine rv0 rfl rfl rfl (y_assign rfl) ?_
    refine rj_nil ?_
    refine hK6 _ _ _ ?_
    refine cj_env (eL 0 rfl (eL 1 rfl (eL 2 rfl (eL 11 rfl eN)))) ?_
    refine cj_cond_t rfl ?_
    refine cj_seq (fun K7 hK7 => ?_)
    refine cj_region ?_
    refine rv0 rfl rfl rfl (y_assign rfl) ?_
    refine rj_nil ?_
    refine hK7 _ _ _ ?_
    refine cj_env (eL 6 rfl eN) ?_
    refine cj_ret ?_
    refine hret _ _ _ ?_
    apply ej_ret Tryz.results89 (.cons (rv_tmp rfl) .nil) _ [lgB b (some ⟨bd, 0, none⟩) va g, dkB bd u D, dkS u D] (by first | exact Hp.le_refl _ | exact Hp.le_trans hR2 hR3 | exact Hp.le_trans hR23 hR4) rfl
    case hp => rw [show g.addD D i m = (1, g, D) by unfold LG.addD; rw [if_neg f0, if_pos f1]]; exact ⟨rfl, u, va, hva, rfl⟩
    case hS => (repeat (first|exact zR _|(apply zP;focus (repeat (first|exact zH _|apply zT)))|apply zD|exact zA _ _))
   ·have f10 : ¬ i < g.base := by simpa using hg18
    refine rj_val (wn1 rfl rfl rfl rfl) rfl rfl (y_move rfl) ?_
    refine rj_val (wn1 rfl rfl rfl rfl) rfl rfl (y_move rfl) ?_
    refine rj_val (wn1 rfl rfl rfl rfl) rfl rfl (y_call Tryz.call19 rfl (hlq) (by (repeat (first|exact zN _|(apply zS;focus (repeat (first|exact zH _|apply zT))))))) ?_
    refine rj_val (wn1 rfl rfl rfl rfl) rfl rfl (y_gtr rfl rfl) ?_
    refine rv0 rfl rfl rfl (y_pick_f rfl rfl) ?_
    refine rv0 rfl rfl rfl (y_assign rfl) ?_
    refine rj_nil ?_
    refine hK6 _ _ _ ?_
    refine cj_env (eL 0 rfl (eL 1 rfl (eL 2 rfl (eL 11 rfl eN)))) ?_
    refine cj_cond rfl (fun hc11 => ?_) (fun hc11 => ?_)
    ·first | have f1 : i < g.base ∨ i > g.last := .inr (by simpa using hc11) | skip
     refine cj_seq (fun K9 hK9 => ?_)
     refine cj_region ?_
     refine rv0 rfl rfl rfl (y_assign rfl) ?_
     refine rj_nil ?_
     refine hK9 _ _ _ ?_
     refine cj_env (eL 6 rfl eN) ?_
     refine cj_ret ?_
     refine hret _ _ _ ?_
     apply ej_ret Tryz.results89 (.cons (rv_tmp rfl) .nil) _ [lgB b (some ⟨bd, 0, none⟩) va g, dkB bd u D, dkS u D] (by first | exact Hp.le_refl _ | exact Hp.le_trans hR2 hR3 | exact Hp.le_trans hR23 hR4) rfl
     case hp => rw [show g.addD D i m = (1, g, D) by unfold LG.addD; rw [if_neg f0, if_pos f1]]; exact ⟨rfl, u, va, hva, rfl⟩
     case hS => (repeat (first|exact zR _|(apply zP;focus (repeat (first|exact zH _|apply zT)))|apply zD|exact zA _ _))
    ·have f1 : ¬ (i < g.base ∨ i > g.last) := by (try simp at hc11); omega
     refine cj_skip ?_
     refine hK2 _ _ _ ?_
     refine cj_seq (fun K10 hK10 => ?_)
     refine cj_seq (fun K11 hK11 => ?_)
     refine cj_region ?_
     have hib : g.base ≤ i ∧ i ≤ g.last := by omega
     have hmay : (Rec.add i m).may g := ⟨hib, hmb, hm⟩
     have hu1 : u64B 1 := by unfold u64B; omega
     have hln := Rec.len_add (b := i) (by have := hg.alln; omega) hmb hm
     refine rv0 rfl rfl rfl (y_move rfl) ?_
     refine rv0 rfl rfl rfl (y_call Tryz.call67 rfl (numN_q _) (by (repeat (first|exact zN _|(apply zS;focus (repeat (first|exact zH _|apply zT))))))) ?_
     refine rv0 rfl rfl rfl (y_move rfl) ?_
     refine rv0 rfl rfl rfl (y_call Tryz.call67 rfl (numN_q _) (by (repeat (first|exact zN _|(apply zS;focus (repeat (first|exact zH _|apply zT))))))) ?_
     refine rv0 rfl rfl rfl (y_move rfl) ?_
     refine rj_call (wn0 rfl) rfl Tryz.call107 rfl (list_t m vm hvm hmb hm) (by (repeat (first|exact zN _|(apply zS;focus (repeat (first|exact zH _|apply zT)))))) (fun _ _ _ _ h => h.elim) ?_
     rintro r R2 L' hR2 ⟨⟨cy, rfl, hrep⟩, rfl⟩
     have hrep2 := hrep
     obtain ⟨k0, n0, s0, l0, q0, cap0, _, rfl, _, _⟩ := hrep2.inv
     try simp only [List.cons_append, List.nil_append]
     refine rj_buildSlice (sz := 4) (wn0 rfl) rfl Tryz.underlying104 Tryz.sizeOf106 Tryz.zeroValue106 rfl rfl rfl (by decide) (by decide) (fun bk => ?_)
     refine rj_call (wn0 rfl) rfl Tryz.call66 rfl (lgWrite_t b bd va u g D n (Rec.add i m) (.slice (some ⟨bk, 0, none⟩) 3 3) [[.int .i64 0, .int .u64 1, .string (str []), .slice none 0 0], [.int .i64 0, .int .u64 i, .string (str []), .slice none 0 0], [.int .i64 k0, .int .u64 n0, .string (str s0), .slice q0 l0.length cap0]] (kids3 (rep_num hu1) (rep_num hi) hrep) hg hmay (by omega) hD hn) (by (repeat (first|exact zN _|(apply zS;focus (repeat (first|exact zH _|apply zT)))))) (fun _ _ _ _ h => h.elim) ?_
     rintro x R3 L' hR3 ⟨rfl, u2, rfl⟩
     unfold lgB lgC
     try simp only [List.cons_append, List.nil_append]
     refine rv0 rfl rfl rfl (y_assign rfl) ?_
     refine rj_nil ?_
     refine hK11 _ _ _ ?_
     refine cj_env (eL 0 rfl (eL 1 rfl (eL 2 rfl (eL 7 rfl eN)))) ?_
     refine cj_seq (fun K12 hK12 => ?_)
     refine cj_region ?_
     refine rv0 rfl rfl rfl (y_move rfl) ?_
     refine rv0 rfl rfl rfl (y_neq rfl rfl) ?_
     refine rj_nil ?_
     refine hK12 _ _ _ ?_
     refine cj_cond rfl (fun hc33 => ?_) (fun hc33 => ?_)
     ·have f2 : ¬ (D.put (Rec.add i m).bytes).1 = 0 := by simpa using hc33
      refine cj_seq (fun K14 hK14 => ?_)
      refine cj_region ?_
      refine rv0 rfl rfl rfl (y_move rfl) ?_
      refine rv0 rfl rfl rfl (y_assign rfl) ?_
      refine rj_nil ?_
      refine hK14 _ _ _ ?_
      refine cj_env (eL 6 rfl eN) ?_
      refine cj_ret ?_
      refine hret _ _ _ ?_
      apply ej_ret Tryz.results89 (.cons (rv_tmp rfl) .nil) _ [lgB b (some ⟨bd, 0, none⟩) va { g with down := or g.down (!decide ((D.put (Rec.add i m).bytes).1 = 0)) }, dkB bd u2 (D.put (Rec.add i m).bytes).2, dkS u2 (D.put (Rec.add i m).bytes).2] (by first | exact Hp.le_refl _ | exact Hp.le_trans hR2 hR3 | exact Hp.le_trans hR23 hR4) rfl
      case hp => rw [show g.addD D i m = ((D.put (Rec.add i m).bytes).1, { g with down := true }, (D.put (Rec.add i m).bytes).2) by unfold LG.addD; rw [if_neg f0, if_neg f1, if_neg f2]]; refine ⟨rfl, u2, va, (hva.mono hR2).mono hR3, ?_⟩; simp [f2]
      case hS => (repeat (first|exact zR _|(apply zP;focus (repeat (first|exact zH _|apply zT)))|apply zD|exact zA _ _))
     ·have f2 : (D.put (Rec.add i m).bytes).1 = 0 := by simpa using hc33
      have hR23 := Hp.le_trans hR2 hR3
      obtain ⟨g2, hg2⟩ : ∃ g2 : LG, g2 = { g with down := or g.down (!decide ((D.put (Rec.add i m).bytes).1 = 0)) } := ⟨_, rfl⟩
      have hgd : g2 = g := by rw [hg2]; simp [f2]
      refine cj_skip ?_
      refine hK10 _ _ _ ?_
      refine cj_env (eL 0 rfl (eL 1 rfl (eL 2 rfl eN))) ?_
      refine cj_seq (fun K15 hK15 => ?_)
      refine cj_region ?_
      refine rv0 rfl rfl rfl (y_move rfl) ?_
      refine rv0 rfl rfl rfl (y_move rfl) ?_
      refine rv0 rfl rfl rfl (y_move rfl) ?_
      refine rj_turn (A := blk b [.pointer (some ⟨bd, 0, none⟩), .bool (or g.down (!decide ((D.put (Rec.add i m).bytes).1 = 0))), .int .u64 g.term, .int .i64 g.vote, .int .u64 g.base, .int .u64 g.baseT, .string (str g.state), va] 87) (B := lgB b (some ⟨bd, 0, none⟩) va g) (by (repeat (first|exact zH _|apply zT));done) (fun h hh => by simpa [f2, lgB, lgC] using hh) ?_
      refine rj_call (wn0 rfl) rfl Tryz.call94 rfl (lgAdd0_t b (some ⟨bd, 0, none⟩) va vm g i m hg hib (hva.mono hR23) (hvm.mono hR23) (by omega)) (by (repeat (first|exact zN _|(apply zS;focus (repeat (first|exact zH _|apply zT)))))) (fun _ _ _ _ h => h.elim) ?_
      rintro x R4 L' hR4 ⟨va2, hva2, rfl⟩
      unfold lgB lgC
      try simp only [List.cons_append, List.nil_append]
      refine rj_nil ?_
      refine hK15 _ _ _ ?_
      refine cj_env eN ?_
      refine cj_seq (fun K16 hK16 => ?_)
      refine cj_region ?_
      refine rv0 rfl rfl rfl (y_assign rfl) ?_
      refine rj_nil ?_
      refine hK16 _ _ _ ?_
      refine cj_ret ?_
      refine hret _ _ _ ?_
      apply ej_ret Tryz.results89 (.cons (rv_tmp rfl) .nil) _ [lgB b (some ⟨bd, 0, none⟩) va2 (g.play (.add i m)), dkB bd u2 (D.put (Rec.add i m).bytes).2, dkS u2 (D.put (Rec.add i m).bytes).2] (by first | exact Hp.le_refl _ | exact Hp.le_trans hR2 hR3 | exact Hp.le_trans hR23 hR4) rfl
      case hp => rw [show g.addD D i m = (0, g.play (.add i m), (D.put (Rec.add i m).bytes).2) by unfold LG.addD; rw [if_neg f0, if_neg f1, if_pos f2]]; exact ⟨rfl, u2, va2, hva2, rfl⟩
      case hS => (repeat (first|exact zR _|(apply zP;focus (repeat (first|exact zH _|apply zT)))|apply zD|exact zA _ _))
end V
end Go.Proofs.YtjdbigplednihaaGreat
set_option linter.unusedSimpArgs false
set_option linter.unusedVariables false
set_option maxRecDepth 100000
namespace Go.Proofs.YtjdbigplednihaaGreat
open Go.RowKit
namespace V
set_option maxHeartbeats 4000000
theorem RepN.kids {R : Hp} {k : Int} {n : Nat} {s : Bs} {l : List Nd} {cx : List Value} (h : RepN R (.mk k n s l) cx) : ∃ q cap, cx = [.int .i64 k, .int .u64 ((n : Nat) : Int), .string (str s), .slice q l.length cap] ∧ RepL R l q cap := by
  obtain ⟨k1, n1, s1, l1, q, cap, e, rfl, _, hl⟩ := h.inv
  cases e
  exact ⟨q, cap, rfl, hl⟩
theorem RepL.mono {R R' : Hp} (hR : R.le R') {l : List Nd} {q : Option Addr} {cap : Nat} (h : RepL R l q cap) : RepL R' l q cap := by
  obtain ⟨k1, n1, s1, l1, q1, cap1, e, e2, _, hl⟩ := ((h.node (k := 0) (n := 0) (s := []) (by simp [big])).mono hR).inv
  cases e
  cases e2
  exact hl
theorem RepL.kid {R : Hp} {l : List Nd} {b off cap : Nat} (h : RepL R l (some ⟨b, off, none⟩) cap) {i : Nat} {k : Int} {n : Nat} {s : Bs} {m : List Nd} (hx : l[i]? = some (.mk k n s m)) :
    ∃ q c, RepL R m q c ∧ Hp.cell R ⟨b, off + i * 4 + 0, none⟩ = some (.int .i64 k) ∧ Hp.cell R ⟨b, off + i * 4 + 1, none⟩ = some (.int .u64 ((n : Nat) : Int)) ∧ Hp.cell R ⟨b, off + i * 4 + 2, none⟩ = some (.string (str s)) ∧ Hp.cell R ⟨b, off + i * 4 + 3, none⟩ = some (.slice q m.length c) := by
  obtain ⟨b1, o1, cs, e, _, hr, hc⟩ := h.at hx
  cases e
  obtain ⟨q, c, rfl, hm⟩ := hr.kids
  exact ⟨q, c, hm, hc 0 _ rfl, hc 1 _ rfl, hc 2 _ rfl, hc 3 _ rfl⟩
theorem entries_t {R : Hp} (l : List Ent) (cx : List Value) (hx : RepN R (listN l) cx) (hb : ∀ e ∈ l, u64B e.1) (hn : l.length ≤ 100000) : Tri Tryz.prog 93 [.agg ⟨cx⟩] R [] (fun r R' L' => (∃ v, r = tupOf [v, .bool true] ∧ FrX entE R' l v) ∧ L' = []) := by
  obtain ⟨q, cap, rfl, hl⟩ := RepN.kids (k := 2) (n := 0) (s := []) (l := l.map entN) hx
  refine tri_of Tryz.func93 rfl Tryz.ntmps93 rfl (fun σ F Q hret hend hpan => ?_)
  try simp only [List.cons_append, List.nil_append]
  refine cj_env (eL 0 rfl eN) ?_
  refine cj_seq (fun K1 hK1 => ?_)
  refine cj_region ?_
  refine rj_box (wn0 rfl) rfl rfl rfl (fun b1 => ?_)
  refine rv0 rfl rfl rfl (y_assign rfl) ?_
  refine rv0 rfl rfl rfl (y_assign rfl) ?_
  refine rj_nil ?_
  refine hK1 _ _ _ ?_
  refine cj_env (eL 1 rfl eN) ?_
  refine cj_seq (fun K2 hK2 => ?_)
  refine cj_region ?_
  refine rv0 rfl rfl rfl (y_assign rfl) ?_
  refine rj_add (A := slc 60 2 (.slice none 0 0) 0 (entsC [])) (slc_nil _ _) ?_
  refine rj_nil ?_
  refine hK2 _ _ _ ?_
  refine cj_seq (fun K3 hK3 => ?_)
  refine cj_seq (fun K4 hK4 => ?_)
  refine cj_region ?_
  refine rv0 rfl rfl rfl (y_fieldAddr (k := 3) Tryz.underlying106 rfl (n := 1) (by decide) Tryz.sizeOf104 rfl) ?_
  first | refine rv0 rfl rfl rfl (y_load ⟨Tryz.isAgg104, Tryz.sizeOf104⟩ rfl (by (repeat (first|exact zH _|apply zT));done) rfl) ?_ | refine rv0 rfl rfl rfl (y_load_slc ⟨Tryz.isAgg104, Tryz.sizeOf104⟩ rfl (by (repeat (first|exact zH _|apply zT));done) rfl) ?_
  first | refine rv0 rfl rfl rfl (y_len_sl Tryz.underlying104 rfl) ?_ | refine rv0 rfl rfl rfl (y_len_slc Tryz.underlying104 rfl (by (repeat (first|exact zH _|apply zT));done)) ?_
  refine rv0 rfl rfl rfl (y_move rfl) ?_
  refine rj_nil ?_
  refine hK4 _ _ _ ?_
  refine cj_block ?_
  refine cj_env (E' := (fun (x1 : Nat × Value × Hp) => [(1, .pointer (some ⟨b1, 0, none⟩)), (4, x1.2.1), (8, .slice q (l.map entN).length cap), (9, .int .i64 ((l.map entN).length : Int)), (10, .int .i64 (x1.1 : Int))]) (0, .slice none 0 0, R)) (eC rfl (eC rfl (eC rfl (eC rfl (eC rfl eN))))) ?_
  refine cj_sub (M := (fun (x1 : Nat × Value × Hp) => slc 60 2 x1.2.1 x1.1 (entsC (l.take x1.1)) :: blk b1 [.int .i64 2, .int .u64 0, .string (str []), .slice q (l.map entN).length cap] 106 :: F) (0, .slice none 0 0, R)) (by (repeat (first|exact zR _|(apply zP;focus (repeat (first|exact zH _|apply zT)))|apply zD|exact zA _ _))) ?_
  refine cj_loop (fun (x1 : Nat × Value × Hp) => [(1, .pointer (some ⟨b1, 0, none⟩)), (4, x1.2.1), (8, .slice q (l.map entN).length cap), (9, .int .i64 ((l.map entN).length : Int)), (10, .int .i64 (x1.1 : Int))]) (fun (x1 : Nat × Value × Hp) => x1.2.2) (fun (x1 : Nat × Value × Hp) => slc 60 2 x1.2.1 x1.1 (entsC (l.take x1.1)) :: blk b1 [.int .i64 2, .int .u64 0, .string (str []), .slice q (l.map entN).length cap] 106 :: F) (fun (x1 : Nat × Value × Hp) => x1.1 ≤ l.length ∧ x1.2.1.oneCell' = true ∧ R.le x1.2.2) (fun (x1 : Nat × Value × Hp) => l.length - x1.1) (0, .slice none 0 0, R) (⟨by simp, rfl, Hp.le_refl _⟩) ?_
  rintro ⟨i, vl, R3⟩ ⟨hi, hvl, hR3⟩
  try dsimp only
  dsimp only at hi hvl hR3
  refine cj_seq (fun K5 hK5 => ?_)
  refine cj_region ?_
  refine rv0 rfl rfl rfl (y_lss rfl rfl) ?_
  refine rj_nil ?_
  refine hK5 _ _ _ ?_
  refine cj_seq (fun K6 hK6 => ?_)
  refine cj_cond rfl (fun hc11 => ?_) (fun hc11 => ?_)
  ·try simp only [dT, dF, nT, nF, tF, fT] at hc11
   refine cj_skip ?_
   refine hK6 _ _ _ ?_
   refine cj_seq (fun K8 hK8 => ?_)
   refine cj_block ?_
   refine cj_seq (fun K9 hK9 => ?_)
   refine cj_region ?_
   have hi2 : i < l.length := by (try simp at hc11); omega
   obtain ⟨e, he⟩ : ∃ x, l[i]? = some x := ⟨_, List.getElem?_eq_getElem hi2⟩
   have heb := hb e (List.mem_of_getElem? he)
   obtain ⟨be, oe, ce, rfl, hcl, hrep, hcell⟩ := (hl.mono hR3).at (i := i) (x := entN e) (by rw [List.getElem?_map, he]; rfl)
   obtain ⟨q2, cap2, rfl, hl2⟩ := RepN.kids (k := 2) (n := 0) (s := []) (l := [numN e.1.toNat, strN e.2]) hrep
   obtain ⟨b2, o2, _, rfl, _⟩ := hl2.at (i := 0) rfl
   obtain ⟨_, _, _, _, hc0, _, _⟩ := hl2.kid (i := 0) rfl
   obtain ⟨_, _, _, _, _, hc1, _⟩ := hl2.kid (i := 1) rfl
   rw [(toNat64 heb).2] at hc0
   first | refine rv0 rfl rfl rfl (y_indexAddr Tryz.underlying104 Tryz.sizeOf106 rfl rfl (by (first | omega | (dsimp only; omega) | (simp; done) | (simp; omega)))) ?_ | refine rv0 rfl rfl rfl (y_index_slc Tryz.underlying104 Tryz.sizeOf106 rfl rfl (by (repeat (first|exact zH _|apply zT));done) (by (first | omega | (dsimp only; omega) | (simp; done) | (simp; omega)))) ?_
   refine rv0 rfl rfl rfl ((y_loads_ro ⟨Tryz.isAgg106, Tryz.sizeOf106⟩ (vs := [.int .i64 2, .int .u64 0, .string (str []), .slice (some ⟨b2, o2, none⟩) 2 cap2]) hcl rfl (fun j u hj => hcell j u hj))) ?_
   refine rj_alloc (wn0 rfl) rfl Tryz.zeroValue106 rfl (fun b6 => ?_)
   refine rj_stores_all (vs := [.int .i64 2, .int .u64 0, .string (str []), .slice (some ⟨b2, o2, none⟩) 2 cap2]) ⟨Tryz.isAgg106, Tryz.sizeOf106⟩ hcl (wn0 rfl) rfl rfl (rep_one hrep) (by (repeat (first|exact zH _|apply zT));done) rfl ?_
   refine rj_nil ?_
   refine hK9 _ _ _ ?_
   refine cj_env (eL 1 rfl (eL 4 rfl (eL 6 rfl (eL 8 rfl (eL 9 rfl (eL 10 rfl eN)))))) ?_
   refine cj_seq (fun K10 hK10 => ?_)
   refine cj_seq (fun K11 hK11 => ?_)
   refine cj_region ?_
   refine rv0 rfl rfl rfl (y_fieldAddr (k := 3) Tryz.underlying106 rfl (n := 1) (by decide) Tryz.sizeOf104 rfl) ?_
   first | refine rv0 rfl rfl rfl (y_load ⟨Tryz.isAgg104, Tryz.sizeOf104⟩ rfl (by (repeat (first|exact zH _|apply zT));done) rfl) ?_ | refine rv0 rfl rfl rfl (y_load_slc ⟨Tryz.isAgg104, Tryz.sizeOf104⟩ rfl (by (repeat (first|exact zH _|apply zT));done) rfl) ?_
   refine rj_buildSlice (sz := 1) (wn0 rfl) rfl Tryz.underlying152 Tryz.sizeOf3 Tryz.zeroValue3 rfl rfl rfl (by decide) (by decide) (fun b16 => ?_)
   refine rj_freeze (e := 3) (sz := 1) (n := 2) (v := .slice (some ⟨b16, 0, none⟩) 2 2) (xs := intsV [0, 1]) (by (repeat (first|exact zH _|apply zT));done) (fun R4 hR4 hfr hxl => ?_)
   refine rv0 rfl rfl rfl (y_call Tryz.call92 rfl (shape_q _ _ _ (hl2.mono hR4) [0, 1] _ (intsFr (l := [0, 1]) hfr)) (by (repeat (first|exact zN _|(apply zS;focus (repeat (first|exact zH _|apply zT))))))) ?_
   refine rj_eq 17 rfl (v' := .bool true) (by simp [numN, strN, Nd.kind]) ?_
   refine rv0 rfl rfl rfl (y_not rfl) ?_
   refine rj_nil ?_
   refine hK11 _ _ _ ?_
   refine cj_env (eL 1 rfl (eL 4 rfl (eL 6 rfl (eL 8 rfl (eL 9 rfl (eL 10 rfl (eL 18 rfl eN))))))) ?_
   refine cj_cond_f rfl ?_
   refine cj_skip ?_
   refine hK10 _ _ _ ?_
   refine cj_mixg (L := [blk b6 [.int .i64 2, .int .u64 0, .string (str []), .slice (some ⟨b2, o2, none⟩) 2 cap2] 106]) [0, 1, 2, 3, 4, 5, 6, 7, 8, 9, 10, 11] [12] [13, 14] _ (by (repeat (first|exact zR _|(apply zP;focus (repeat (first|exact zH _|apply zT)))|apply zD|exact zA _ _))) (by kernel_rfl) (by kernel_rfl) (by kernel_rfl) rfl ?_
   refine fj_val rfl rfl rfl (wn0 rfl) (fun R1 hR1 G => (y_move rfl)) ?_
   refine fj_val rfl rfl rfl (wn0 rfl) (fun R1 hR1 G => (y_fieldAddr (k := 3) Tryz.underlying106 rfl (n := 1) (by decide) Tryz.sizeOf104 rfl)) ?_
   first | refine fj_val rfl rfl rfl (wn0 rfl) (fun R1 hR1 G => (y_load ⟨Tryz.isAgg104, Tryz.sizeOf104⟩ rfl (by (repeat (first|exact zH _|apply zT));done) rfl)) ?_ | refine fj_val rfl rfl rfl (wn0 rfl) (fun R1 hR1 G => (y_load_slc ⟨Tryz.isAgg104, Tryz.sizeOf104⟩ rfl (by (repeat (first|exact zH _|apply zT));done) rfl)) ?_
   first | refine fj_val rfl rfl rfl (wn0 rfl) (fun R1 hR1 G => (y_indexAddr Tryz.underlying104 Tryz.sizeOf106 rfl rfl (by (first | omega | (dsimp only; omega) | (simp; done) | (simp; omega))))) ?_ | refine fj_val rfl rfl rfl (wn0 rfl) (fun R1 hR1 G => (y_index_slc Tryz.underlying104 Tryz.sizeOf106 rfl rfl (by (repeat (first|exact zH _|apply zT));done) (by (first | omega | (dsimp only; omega) | (simp; done) | (simp; omega))))) ?_
   refine fj_val rfl rfl rfl (wn0 rfl) (fun R1 hR1 G => (y_fieldAddr (k := 1) Tryz.underlying106 rfl (n := 1) (by decide) Tryz.sizeOf31 rfl)) ?_
   refine fj_val rfl rfl rfl (wn0 rfl) (fun R1 hR1 G => (y_load_ro ⟨Tryz.isAgg31, Tryz.sizeOf31⟩ rfl (cell_mono (Hp.le_trans hR4 hR1) hc0))) ?_
   refine fj_val rfl rfl rfl (wn0 rfl) (fun R1 hR1 G => (y_fieldAddr (k := 3) Tryz.underlying106 rfl (n := 1) (by decide) Tryz.sizeOf104 rfl)) ?_
   first | refine fj_val rfl rfl rfl (wn0 rfl) (fun R1 hR1 G => (y_load ⟨Tryz.isAgg104, Tryz.sizeOf104⟩ rfl (by (repeat (first|exact zH _|apply zT));done) rfl)) ?_ | refine fj_val rfl rfl rfl (wn0 rfl) (fun R1 hR1 G => (y_load_slc ⟨Tryz.isAgg104, Tryz.sizeOf104⟩ rfl (by (repeat (first|exact zH _|apply zT));done) rfl)) ?_
   first | refine fj_val rfl rfl rfl (wn0 rfl) (fun R1 hR1 G => (y_indexAddr Tryz.underlying104 Tryz.sizeOf106 rfl rfl (by (first | omega | (dsimp only; omega) | (simp; done) | (simp; omega))))) ?_ | refine fj_val rfl rfl rfl (wn0 rfl) (fun R1 hR1 G => (y_index_slc Tryz.underlying104 Tryz.sizeOf106 rfl rfl (by (repeat (first|exact zH _|apply zT));done) (by (first | omega | (dsimp only; omega) | (simp; done) | (simp; omega))))) ?_
   refine fj_val rfl rfl rfl (wn0 rfl) (fun R1 hR1 G => (y_fieldAddr (k := 2) Tryz.underlying106 rfl (n := 1) (by decide) Tryz.sizeOf9 rfl)) ?_
   refine fj_val rfl rfl rfl (wn0 rfl) (fun R1 hR1 G => (y_load_ro ⟨Tryz.isAgg9, Tryz.sizeOf9⟩ rfl (cell_mono (Hp.le_trans hR4 hR1) hc1))) ?_
   refine fj_val rfl rfl rfl (wn0 rfl) (fun R1 hR1 G => (y_build (cells := [_, _]) [(0, 1), (1, 1)] Tryz.underlying60 Tryz.zeroValue60 (fun _ => rfl) rfl rfl)) ?_
   refine fj_nil ?_
   refine xj_rj rfl ?_
   try simp only [List.cons_append, List.nil_append, List.append_nil]
   refine rj_buildSlice (sz := 2) (wn0 rfl) rfl Tryz.underlying32 Tryz.sizeOf60 Tryz.zeroValue60 rfl rfl rfl (by decide) (by decide) (fun b31 => ?_)
   refine rj_xk (by (first | exact Hp.le_refl _ | assumption | exact Hp.le_trans ‹_› ‹_›)) (by (repeat (first|exact zR _|(apply zP;focus (repeat (first|exact zH _|apply zT)))|apply zD|exact zA _ _))) ?_
   refine xj_nil ?_
   try simp only [List.cons_append, List.nil_append, List.append_nil]
   refine rj_append (sz := 2) (by_ := 24) ⟨Tryz.underlying32, _, _, rfl, rfl, rfl, rfl, rfl⟩ (wn0 rfl) rfl rfl rfl (by (repeat (first|exact zH _|apply zT));done) (src_slc (xs := entC e) Tryz.underlying32 (by (repeat (first|exact zH _|apply zT));done) (entE.one (R := R4) (x := e) rfl)) rfl (by (first | omega | (dsimp only; omega) | (simp; done) | (simp; omega))) (by simp only [maxLen]; omega) (fun v32 ho32 hh32 => ?_)
   rw [show entsC (l.take i) ++ entC e = entsC (l.take (i + 1)) by unfold entsC; rw [map_snoc he]; simp]
   refine rv0 rfl rfl rfl (y_assign rfl) ?_
   refine rj_nil ?_
   refine hK8 _ _ _ ?_
   refine cj_env (eL 1 rfl (eL 4 rfl (eL 8 rfl (eL 9 rfl (eL 10 rfl eN))))) ?_
   refine cj_region ?_
   first | refine rv0 rfl rfl rfl (y_add64 rfl rfl (by (first | omega | (dsimp only; omega) | (simp; done) | (simp; omega)))) ?_ | refine rv0 rfl rfl rfl (y_add rfl rfl) ?_
   refine rv0 rfl rfl rfl (y_move rfl) ?_
   refine rj_nil ?_
   refine ej_on (q' := roundK _ _ _ _ _ _ _) rfl ?_
   refine ej_round ((i + 1, v32, R4)) (⟨by dsimp only; omega, by assumption, Hp.le_trans hR3 hR4⟩) (by dsimp only; omega) (eC rfl (eC rfl (eC rfl (eC rfl (eC rfl eN))))) rfl (by (repeat (first|exact zR _|(apply zP;focus (repeat (first|exact zH _|apply zT)))|apply zD|exact zA _ _)))
  ·try simp only [dT, dF, nT, nF, tF, fT] at hc11
   refine cj_exit ?_
   refine hK3 _ _ _ ?_
   refine cj_env (eL 1 rfl (eL 4 rfl eN)) ?_
   refine cj_seq (fun K12 hK12 => ?_)
   obtain rfl : i = l.length := by (try simp at hc11); omega
   rw [List.take_length]
   refine cj_freeze (e := 60) (sz := 2) (n := l.length) (v := vl) (xs := entsC l) (by (repeat (first|exact zH _|apply zT));done) (fun R5 hR5 hfr5 hxl5 => ?_)
   have hfx := entsFr hfr5
   obtain ⟨q5, cap5, rfl, _, _⟩ := hfx.shape
   refine cj_draw (by kernel_rfl) (by kernel_rfl) ?_
   refine qj_val (wn0 rfl) rfl rfl (y_move rfl) ?_
   refine qj_val (wn0 rfl) rfl rfl (y_fieldAddr (k := 0) Tryz.underlying106 rfl (n := 1) (by decide) Tryz.sizeOf3 rfl) ?_
   first | refine qj_val (wn0 rfl) rfl rfl (y_load ⟨Tryz.isAgg3, Tryz.sizeOf3⟩ rfl (by (repeat (first|exact zH _|apply zT));done) rfl) ?_ | refine qj_val (wn0 rfl) rfl rfl (y_load_slc ⟨Tryz.isAgg3, Tryz.sizeOf3⟩ rfl (by (repeat (first|exact zH _|apply zT));done) rfl) ?_
   refine qj_val (wn0 rfl) rfl rfl (y_eql rfl rfl) ?_
   refine qj_val (wn0 rfl) rfl rfl (y_assign rfl) ?_
   refine qj_val (wn0 rfl) rfl rfl (y_assign rfl) ?_
   refine qj_nil ?_
   refine hK12 _ _ _ ?_
   refine cj_env (eL 2 rfl (eL 3 rfl eN)) ?_
   refine cj_ret ?_
   refine hret _ _ _ ?_
   apply ej_ret Tryz.results93 (.cons (rv_tmp rfl) (.cons (rv_tmp rfl) .nil)) _ [] (by exact Hp.le_trans hR3 hR5) rfl
   case hp => exact ⟨⟨_, rfl, hfx⟩, rfl⟩
   case hS => (repeat (first|exact zR _|(apply zP;focus (repeat (first|exact zH _|apply zT)))|apply zD|exact zA _ _))
theorem replayTerm_t {R : Hp} (b : Nat) (d : Option Addr) (va : Value) (g : LG) (t v : Int) (hm : (Rec.term t v).may g) (cx : List Value) (hx : RepN R (Rec.term t v).nd cx) :
    Tri Tryz.prog 57 [.pointer (some ⟨b, 0, none⟩), .agg ⟨cx⟩] R [lgB b d va g] (fun x R' L' => x = .bool true ∧ L' = [lgB b d va (g.play (.term t v))]) := by
  obtain ⟨h1, h2, h3⟩ := hm
  obtain ⟨q, cap, rfl, hl⟩ := RepN.kids (k := 2) (n := 0) (s := []) (l := [numN 0, numN t.toNat, numN (v + 1).toNat]) hx
  obtain ⟨b0, o0, _, rfl, _⟩ := hl.at (i := 0) rfl
  obtain ⟨_, _, _, hk0, hn0, _, _⟩ := hl.kid (i := 0) rfl
  obtain ⟨_, _, _, _, hn1, _, _⟩ := hl.kid (i := 1) rfl
  obtain ⟨_, _, _, _, hn2, _, _⟩ := hl.kid (i := 2) rfl
  rw [(toNat64 h1).2] at hn1
  rw [show (((v + 1).toNat : Nat) : Int) = v + 1 by omega] at hn2
  refine tri_of Tryz.func57 rfl Tryz.ntmps57 rfl (fun σ F Q hret hend hpan => ?_)
  try simp only [List.cons_append, List.nil_append]
  refine cj_env (eL 0 rfl (eL 1 rfl eN)) ?_
  unfold lgB lgC
  refine cj_seq (fun K1 hK1 => ?_)
  refine cj_region ?_
  refine rj_box (wn0 rfl) rfl rfl rfl (fun bx => ?_)
  refine rv0 rfl rfl rfl (y_assign rfl) ?_
  refine rj_nil ?_
  refine hK1 _ _ _ ?_
  refine cj_seq (fun K2 hK2 => ?_)
  refine cj_seq (fun K3 hK3 => ?_)
  refine cj_region ?_
  refine rv0 rfl rfl rfl (y_fieldAddr (k := 3) Tryz.underlying106 rfl (n := 1) (by decide) Tryz.sizeOf104 rfl) ?_
  first | refine rv0 rfl rfl rfl (y_load ⟨Tryz.isAgg104, Tryz.sizeOf104⟩ rfl (by (repeat (first|exact zH _|apply zT));done) rfl) ?_ | refine rv0 rfl rfl rfl (y_load_slc ⟨Tryz.isAgg104, Tryz.sizeOf104⟩ rfl (by (repeat (first|exact zH _|apply zT));done) rfl) ?_
  first | refine rv0 rfl rfl rfl (y_len_sl Tryz.underlying104 rfl) ?_ | refine rv0 rfl rfl rfl (y_len_slc Tryz.underlying104 rfl (by (repeat (first|exact zH _|apply zT));done)) ?_
  refine rv0 rfl rfl rfl (y_eql rfl rfl) ?_
  refine rv0 rfl rfl rfl (y_move rfl) ?_
  refine rj_val (wn1 rfl rfl rfl rfl) rfl rfl (y_fieldAddr (k := 3) Tryz.underlying106 rfl (n := 1) (by decide) Tryz.sizeOf104 rfl) ?_
  first | refine rj_val (wn1 rfl rfl rfl rfl) rfl rfl (y_load ⟨Tryz.isAgg104, Tryz.sizeOf104⟩ rfl (by (repeat (first|exact zH _|apply zT));done) rfl) ?_ | refine rj_val (wn1 rfl rfl rfl rfl) rfl rfl (y_load_slc ⟨Tryz.isAgg104, Tryz.sizeOf104⟩ rfl (by (repeat (first|exact zH _|apply zT));done) rfl) ?_
  first | refine rj_val (wn1 rfl rfl rfl rfl) rfl rfl (y_indexAddr Tryz.underlying104 Tryz.sizeOf106 rfl rfl (by (first | omega | (dsimp only; omega) | (simp; done) | (simp; omega)))) ?_ | refine rj_val (wn1 rfl rfl rfl rfl) rfl rfl (y_index_slc Tryz.underlying104 Tryz.sizeOf106 rfl rfl (by (repeat (first|exact zH _|apply zT));done) (by (first | omega | (dsimp only; omega) | (simp; done) | (simp; omega)))) ?_
  refine rj_val (wn1 rfl rfl rfl rfl) rfl rfl (y_fieldAddr (k := 0) Tryz.underlying106 rfl (n := 1) (by decide) Tryz.sizeOf3 rfl) ?_
  refine rj_val (wn1 rfl rfl rfl rfl) rfl rfl ((y_load_ro ⟨Tryz.isAgg3, Tryz.sizeOf3⟩ rfl hk0)) ?_
  refine rj_val (wn1 rfl rfl rfl rfl) rfl rfl (y_neq rfl rfl) ?_
  refine rv0 rfl rfl rfl (y_pick_f rfl rfl) ?_
  refine rj_nil ?_
  refine hK3 _ _ _ ?_
  refine cj_env (eL 0 rfl (eL 3 rfl (eL 21 rfl eN))) ?_
  refine cj_cond_f rfl ?_
  refine cj_skip ?_
  refine hK2 _ _ _ ?_
  refine cj_seq (fun K4 hK4 => ?_)
  refine cj_region ?_
  refine rv0 rfl rfl rfl (y_fieldAddr (k := 3) Tryz.underlying106 rfl (n := 1) (by decide) Tryz.sizeOf104 rfl) ?_
  first | refine rv0 rfl rfl rfl (y_load ⟨Tryz.isAgg104, Tryz.sizeOf104⟩ rfl (by (repeat (first|exact zH _|apply zT));done) rfl) ?_ | refine rv0 rfl rfl rfl (y_load_slc ⟨Tryz.isAgg104, Tryz.sizeOf104⟩ rfl (by (repeat (first|exact zH _|apply zT));done) rfl) ?_
  refine rv0 rfl rfl rfl (y_assign rfl) ?_
  refine rj_nil ?_
  refine hK4 _ _ _ ?_
  refine cj_env (eL 0 rfl (eL 5 rfl eN)) ?_
  refine cj_seq (fun K5 hK5 => ?_)
  refine cj_block ?_
  refine cj_seq (fun K6 hK6 => ?_)
  refine cj_region ?_
  refine rv0 rfl rfl rfl (y_move rfl) ?_
  first | refine rv0 rfl rfl rfl (y_indexAddr Tryz.underlying104 Tryz.sizeOf106 rfl rfl (by (first | omega | (dsimp only; omega) | (simp; done) | (simp; omega)))) ?_ | refine rv0 rfl rfl rfl (y_index_slc Tryz.underlying104 Tryz.sizeOf106 rfl rfl (by (repeat (first|exact zH _|apply zT));done) (by (first | omega | (dsimp only; omega) | (simp; done) | (simp; omega)))) ?_
  refine rv0 rfl rfl rfl (y_fieldAddr (k := 1) Tryz.underlying106 rfl (n := 1) (by decide) Tryz.sizeOf31 rfl) ?_
  refine rv0 rfl rfl rfl ((y_load_ro ⟨Tryz.isAgg31, Tryz.sizeOf31⟩ rfl hn0)) ?_
  refine rv0 rfl rfl rfl (y_eql rfl rfl) ?_
  refine rv0 rfl rfl rfl (y_move rfl) ?_
  refine rj_val (wn1 rfl rfl rfl rfl) rfl rfl (y_move rfl) ?_
  refine rj_buildSlice (sz := 1) (wn1 rfl rfl rfl rfl) rfl Tryz.underlying152 Tryz.sizeOf3 Tryz.zeroValue3 rfl rfl rfl (by decide) (by decide) (fun b32 => ?_)
  refine rj_freeze (e := 3) (sz := 1) (n := 3) (v := .slice (some ⟨b32, 0, none⟩) 3 3) (xs := intsV [0, 0, 0]) (by (repeat (first|exact zH _|apply zT));done) (fun R4 hR4 hfr hxl => ?_)
  refine rj_val (wn1 rfl rfl rfl rfl) rfl rfl (y_call Tryz.call92 rfl (shape_q _ _ _ (hl.mono hR4) [0, 0, 0] _ (intsFr (l := [0, 0, 0]) hfr)) (by (repeat (first|exact zN _|(apply zS;focus (repeat (first|exact zH _|apply zT))))))) ?_
  refine rj_eq 33 rfl (v' := .bool true) (by simp [numN, strN, listN, Nd.kind]) ?_
  refine rv0 rfl rfl rfl (y_pick_t rfl rfl) ?_
  refine rv0 rfl rfl rfl (y_assign rfl) ?_
  refine rj_nil ?_
  refine hK6 _ _ _ ?_
  refine cj_env (eL 0 rfl (eL 5 rfl (eL 24 rfl eN))) ?_
  refine cj_cond_t rfl ?_
  refine cj_seq (fun K7 hK7 => ?_)
  refine cj_mixg (L := []) [0, 1, 2, 3, 4, 5, 6, 7, 8, 9, 10, 11, 12, 13] [14] [15, 16, 17] _ (by (repeat (first|exact zR _|(apply zP;focus (repeat (first|exact zH _|apply zT)))|apply zD|exact zA _ _))) (by kernel_rfl) (by kernel_rfl) (by kernel_rfl) rfl ?_
  refine fj_val rfl rfl rfl (wn0 rfl) (fun R1 hR1 G => (y_move rfl)) ?_
  refine fj_val rfl rfl rfl (wn0 rfl) (fun R1 hR1 G => (y_move rfl)) ?_
  refine fj_val rfl rfl rfl (wn0 rfl) (fun R1 hR1 G => (y_move rfl)) ?_
  first | refine fj_val rfl rfl rfl (wn0 rfl) (fun R1 hR1 G => (y_indexAddr Tryz.underlying104 Tryz.sizeOf106 rfl rfl (by (first | omega | (dsimp only; omega) | (simp; done) | (simp; omega))))) ?_ | refine fj_val rfl rfl rfl (wn0 rfl) (fun R1 hR1 G => (y_index_slc Tryz.underlying104 Tryz.sizeOf106 rfl rfl (by (repeat (first|exact zH _|apply zT));done) (by (first | omega | (dsimp only; omega) | (simp; done) | (simp; omega))))) ?_
  refine fj_val rfl rfl rfl (wn0 rfl) (fun R1 hR1 G => (y_fieldAddr (k := 1) Tryz.underlying106 rfl (n := 1) (by decide) Tryz.sizeOf31 rfl)) ?_
  refine fj_val rfl rfl rfl (wn0 rfl) (fun R1 hR1 G => (y_load_ro ⟨Tryz.isAgg31, Tryz.sizeOf31⟩ rfl (cell_mono (Hp.le_trans hR4 hR1) hn1))) ?_
  refine fj_val rfl rfl rfl (wn0 rfl) (fun R1 hR1 G => (y_move rfl)) ?_
  first | refine fj_val rfl rfl rfl (wn0 rfl) (fun R1 hR1 G => (y_indexAddr Tryz.underlying104 Tryz.sizeOf106 rfl rfl (by (first | omega | (dsimp only; omega) | (simp; done) | (simp; omega))))) ?_ | refine fj_val rfl rfl rfl (wn0 rfl) (fun R1 hR1 G => (y_index_slc Tryz.underlying104 Tryz.sizeOf106 rfl rfl (by (repeat (first|exact zH _|apply zT));done) (by (first | omega | (dsimp only; omega) | (simp; done) | (simp; omega))))) ?_
  refine fj_val rfl rfl rfl (wn0 rfl) (fun R1 hR1 G => (y_fieldAddr (k := 1) Tryz.underlying106 rfl (n := 1) (by decide) Tryz.sizeOf31 rfl)) ?_
  refine fj_val rfl rfl rfl (wn0 rfl) (fun R1 hR1 G => (y_load_ro ⟨Tryz.isAgg31, Tryz.sizeOf31⟩ rfl (cell_mono (Hp.le_trans hR4 hR1) hn2))) ?_
  refine fj_val rfl rfl rfl (wn0 rfl) (fun R1 hR1 G => (y_conv_in Tryz.underlying31 Tryz.underlying3 rfl (by (simp only [IntKind.min, IntKind.max, IntKind.signed, IntKind.bits, Bool.false_eq_true, ite_false, ite_true]; omega)))) ?_
  refine fj_val rfl rfl rfl (wn0 rfl) (fun R1 hR1 G => (Yld.to (y_sub64 rfl rfl (by omega)) (u := .int .i64 v) (by rw [show v + 1 - 1 = v by omega]))) ?_
  refine fj_val rfl rfl rfl (wn0 rfl) (fun R1 hR1 G => (y_nilCheck rfl)) ?_
  refine fj_val rfl rfl rfl (wn0 rfl) (fun R1 hR1 G => (y_fieldAddr (k := 2) Tryz.underlying87 rfl (n := 1) (by decide) Tryz.sizeOf31 rfl)) ?_
  refine fj_nil ?_
  refine xj_rj rfl ?_
  try simp only [List.cons_append, List.nil_append, List.append_nil]
  refine rj_store ⟨Tryz.isAgg31, Tryz.sizeOf31⟩ (wn0 rfl) rfl rfl (by (first | rfl | assumption | (apply cutV_one; assumption))) (by (repeat (first|exact zH _|apply zT));done) rfl rfl ?_
  refine rj_xk (by (first | exact Hp.le_refl _ | assumption | exact Hp.le_trans ‹_› ‹_›)) (by (repeat (first|exact zR _|(apply zP;focus (repeat (first|exact zH _|apply zT)))|apply zD|exact zA _ _))) ?_
  refine xj_nil ?_
  try simp only [List.cons_append, List.nil_append, List.append_nil]
  refine rv0 rfl rfl rfl (y_nilCheck rfl) ?_
  refine rv0 rfl rfl rfl (y_fieldAddr (k := 3) Tryz.underlying87 rfl (n := 1) (by decide) Tryz.sizeOf3 rfl) ?_
  refine rj_store ⟨Tryz.isAgg3, Tryz.sizeOf3⟩ (wn0 rfl) rfl rfl (by (first | rfl | assumption | (apply cutV_one; assumption))) (by (repeat (first|exact zH _|apply zT));done) rfl rfl ?_
  refine rj_nil ?_
  refine hK7 _ _ _ ?_
  refine cj_env eN ?_
  refine cj_seq (fun K8 hK8 => ?_)
  refine cj_region ?_
  refine rv0 rfl rfl rfl (y_assign rfl) ?_
  refine rj_nil ?_
  refine hK8 _ _ _ ?_
  refine cj_ret ?_
  refine hret _ _ _ ?_
  apply ej_ret Tryz.results57 (.cons (rv_tmp rfl) .nil) _ [lgB b d va (g.play (.term t v))] (by (first | exact Hp.le_refl _ | assumption | exact Hp.le_trans ‹_› ‹_›)) rfl
  case hp => exact ⟨rfl, rfl⟩
  case hS => (repeat (first|exact zR _|(apply zP;focus (repeat (first|exact zH _|apply zT)))|apply zD|exact zA _ _))
theorem replayAdd_t {R : Hp} (b : Nat) (d : Option Addr) (va : Value) (g : LG) (i : Int) (m : List Ent) (hg : g.ok) (hm : (Rec.add i m).may g) (hva : FrX entE R g.all va) (cx : List Value) (hx : RepN R (Rec.add i m).nd cx) :
    Tri Tryz.prog 57 [.pointer (some ⟨b, 0, none⟩), .agg ⟨cx⟩] R [lgB b d va g] (fun x R' L' => x = .bool true ∧ ∃ va', FrX entE R' (g.play (.add i m)).all va' ∧ L' = [lgB b d va' (g.play (.add i m))]) := by
  obtain ⟨⟨h1, h2⟩, h3, h4⟩ := hm
  have hb := hg.base
  obtain ⟨q, cap, rfl, hl⟩ := RepN.kids (k := 2) (n := 0) (s := []) (l := [numN 1, numN i.toNat, listN m]) hx
  obtain ⟨b0, o0, _, rfl, _⟩ := hl.at (i := 0) rfl
  obtain ⟨_, _, _, hk0, hn0, _, _⟩ := hl.kid (i := 0) rfl
  obtain ⟨_, _, _, _, hn1, _, _⟩ := hl.kid (i := 1) rfl
  obtain ⟨_, _, _, e2, _, hr2, hcell2⟩ := hl.at (i := 2) (x := listN m) rfl
  cases e2
  obtain ⟨q2, cap2, rfl, hl2⟩ := RepN.kids (k := 2) (n := 0) (s := []) (l := m.map entN) hr2
  rw [show ((i.toNat : Nat) : Int) = i by omega] at hn1
  have hlq := lgLast_q (R := R) b d va g hg hva
  refine tri_of Tryz.func57 rfl Tryz.ntmps57 rfl (fun σ F Q hret hend hpan => ?_)
  try simp only [List.cons_append, List.nil_append]
  refine cj_env (eL 0 rfl (eL 1 rfl eN)) ?_
  unfold lgB lgC
  refine cj_seq (fun K1 hK1 => ?_)
  refine cj_region ?_
  refine rj_box (wn0 rfl) rfl rfl rfl (fun bx => ?_)
  refine rv0 rfl rfl rfl (y_assign rfl) ?_
  refine rj_nil ?_
  refine hK1 _ _ _ ?_
  refine cj_seq (fun K2 hK2 => ?_)
  refine cj_seq (fun K3 hK3 => ?_)
  refine cj_region ?_
  refine rv0 rfl rfl rfl (y_fieldAddr (k := 3) Tryz.underlying106 rfl (n := 1) (by decide) Tryz.sizeOf104 rfl) ?_
  first | refine rv0 rfl rfl rfl (y_load ⟨Tryz.isAgg104, Tryz.sizeOf104⟩ rfl (by (repeat (first|exact zH _|apply zT));done) rfl) ?_ | refine rv0 rfl rfl rfl (y_load_slc ⟨Tryz.isAgg104, Tryz.sizeOf104⟩ rfl (by (repeat (first|exact zH _|apply zT));done) rfl) ?_
  first | refine rv0 rfl rfl rfl (y_len_sl Tryz.underlying104 rfl) ?_ | refine rv0 rfl rfl rfl (y_len_slc Tryz.underlying104 rfl (by (repeat (first|exact zH _|apply zT));done)) ?_
  refine rv0 rfl rfl rfl (y_eql rfl rfl) ?_
  refine rv0 rfl rfl rfl (y_move rfl) ?_
  refine rj_val (wn1 rfl rfl rfl rfl) rfl rfl (y_fieldAddr (k := 3) Tryz.underlying106 rfl (n := 1) (by decide) Tryz.sizeOf104 rfl) ?_
  first | refine rj_val (wn1 rfl rfl rfl rfl) rfl rfl (y_load ⟨Tryz.isAgg104, Tryz.sizeOf104⟩ rfl (by (repeat (first|exact zH _|apply zT));done) rfl) ?_ | refine rj_val (wn1 rfl rfl rfl rfl) rfl rfl (y_load_slc ⟨Tryz.isAgg104, Tryz.sizeOf104⟩ rfl (by (repeat (first|exact zH _|apply zT));done) rfl) ?_
  first | refine rj_val (wn1 rfl rfl rfl rfl) rfl rfl (y_indexAddr Tryz.underlying104 Tryz.sizeOf106 rfl rfl (by (first | omega | (dsimp only; omega) | (simp; done) | (simp; omega)))) ?_ | refine rj_val (wn1 rfl rfl rfl rfl) rfl rfl (y_index_slc Tryz.underlying104 Tryz.sizeOf106 rfl rfl (by (repeat (first|exact zH _|apply zT));done) (by (first | omega | (dsimp only; omega) | (simp; done) | (simp; omega)))) ?_
  refine rj_val (wn1 rfl rfl rfl rfl) rfl rfl (y_fieldAddr (k := 0) Tryz.underlying106 rfl (n := 1) (by decide) Tryz.sizeOf3 rfl) ?_
  refine rj_val (wn1 rfl rfl rfl rfl) rfl rfl ((y_load_ro ⟨Tryz.isAgg3, Tryz.sizeOf3⟩ rfl hk0)) ?_
  refine rj_val (wn1 rfl rfl rfl rfl) rfl rfl (y_neq rfl rfl) ?_
  refine rv0 rfl rfl rfl (y_pick_f rfl rfl) ?_
  refine rj_nil ?_
  refine hK3 _ _ _ ?_
  refine cj_env (eL 0 rfl (eL 3 rfl (eL 21 rfl eN))) ?_
  refine cj_cond_f rfl ?_
  refine cj_skip ?_
  refine hK2 _ _ _ ?_
  refine cj_seq (fun K4 hK4 => ?_)
  refine cj_region ?_
  refine rv0 rfl rfl rfl (y_fieldAddr (k := 3) Tryz.underlying106 rfl (n := 1) (by decide) Tryz.sizeOf104 rfl) ?_
  first | refine rv0 rfl rfl rfl (y_load ⟨Tryz.isAgg104, Tryz.sizeOf104⟩ rfl (by (repeat (first|exact zH _|apply zT));done) rfl) ?_ | refine rv0 rfl rfl rfl (y_load_slc ⟨Tryz.isAgg104, Tryz.sizeOf104⟩ rfl (by (repeat (first|exact zH _|apply zT));done) rfl) ?_
  refine rv0 rfl rfl rfl (y_assign rfl) ?_
  refine rj_nil ?_
  refine hK4 _ _ _ ?_
  refine cj_env (eL 0 rfl (eL 5 rfl eN)) ?_
  refine cj_seq (fun K5 hK5 => ?_)
  refine cj_block ?_
  refine cj_seq (fun K6 hK6 => ?_)
  refine cj_region ?_
  refine rv0 rfl rfl rfl (y_move rfl) ?_
  first | refine rv0 rfl rfl rfl (y_indexAddr Tryz.underlying104 Tryz.sizeOf106 rfl rfl (by (first | omega | (dsimp only; omega) | (simp; done) | (simp; omega)))) ?_ | refine rv0 rfl rfl rfl (y_index_slc Tryz.underlying104 Tryz.sizeOf106 rfl rfl (by (repeat (first|exact zH _|apply zT));done) (by (first | omega | (dsimp only; omega) | (simp; done) | (simp; omega)))) ?_
  refine rv0 rfl rfl rfl (y_fieldAddr (k := 1) Tryz.underlying106 rfl (n := 1) (by decide) Tryz.sizeOf31 rfl) ?_
  refine rv0 rfl rfl rfl ((y_load_ro ⟨Tryz.isAgg31, Tryz.sizeOf31⟩ rfl hn0)) ?_
  refine rv0 rfl rfl rfl (y_eql rfl rfl) ?_
  refine rv0 rfl rfl rfl (y_move rfl) ?_
  refine rj_skip (wn2 rfl rfl rfl rfl rfl) rfl rfl ?_
  refine rj_skip (wn2 rfl rfl rfl rfl rfl) rfl rfl ?_
  refine rj_skip (wn2 rfl rfl rfl rfl rfl) rfl rfl ?_
  refine rv0 rfl rfl rfl (y_pick_f rfl rfl) ?_
  refine rv0 rfl rfl rfl (y_assign rfl) ?_
  refine rj_nil ?_
  refine hK6 _ _ _ ?_
  refine cj_env (eL 0 rfl (eL 5 rfl (eL 24 rfl eN))) ?_
  refine cj_cond_f rfl ?_
  refine cj_seq (fun K7 hK7 => ?_)
  refine cj_region ?_
  refine rv0 rfl rfl rfl (y_move rfl) ?_
  first | refine rv0 rfl rfl rfl (y_indexAddr Tryz.underlying104 Tryz.sizeOf106 rfl rfl (by (first | omega | (dsimp only; omega) | (simp; done) | (simp; omega)))) ?_ | refine rv0 rfl rfl rfl (y_index_slc Tryz.underlying104 Tryz.sizeOf106 rfl rfl (by (repeat (first|exact zH _|apply zT));done) (by (first | omega | (dsimp only; omega) | (simp; done) | (simp; omega)))) ?_
  refine rv0 rfl rfl rfl (y_fieldAddr (k := 1) Tryz.underlying106 rfl (n := 1) (by decide) Tryz.sizeOf31 rfl) ?_
  refine rv0 rfl rfl rfl ((y_load_ro ⟨Tryz.isAgg31, Tryz.sizeOf31⟩ rfl hn0)) ?_
  refine rv0 rfl rfl rfl (y_eql rfl rfl) ?_
  refine rv0 rfl rfl rfl (y_move rfl) ?_
  refine rj_val (wn1 rfl rfl rfl rfl) rfl rfl (y_move rfl) ?_
  refine rj_buildSlice (sz := 1) (wn1 rfl rfl rfl rfl) rfl Tryz.underlying152 Tryz.sizeOf3 Tryz.zeroValue3 rfl rfl rfl (by decide) (by decide) (fun b59 => ?_)
  refine rj_freeze (e := 3) (sz := 1) (n := 3) (v := .slice (some ⟨b59, 0, none⟩) 3 3) (xs := intsV [0, 0, 2]) (by (repeat (first|exact zH _|apply zT));done) (fun R4 hR4 hfr hxl => ?_)
  refine rj_val (wn1 rfl rfl rfl rfl) rfl rfl (y_call Tryz.call92 rfl (shape_q _ _ _ (hl.mono hR4) [0, 0, 2] _ (intsFr (l := [0, 0, 2]) hfr)) (by (repeat (first|exact zN _|(apply zS;focus (repeat (first|exact zH _|apply zT))))))) ?_
  refine rj_eq 60 rfl (v' := .bool true) (by simp [numN, strN, listN, Nd.kind]) ?_
  refine rv0 rfl rfl rfl (y_pick_t rfl rfl) ?_
  refine rv0 rfl rfl rfl (y_assign rfl) ?_
  refine rj_nil ?_
  refine hK7 _ _ _ ?_
  refine cj_env (eL 0 rfl (eL 5 rfl (eL 51 rfl eN))) ?_
  refine cj_cond_t rfl ?_
  refine cj_seq (fun K8 hK8 => ?_)
  refine cj_region ?_
  refine rv0 rfl rfl rfl (y_move rfl) ?_
  first | refine rv0 rfl rfl rfl (y_indexAddr Tryz.underlying104 Tryz.sizeOf106 rfl rfl (by (first | omega | (dsimp only; omega) | (simp; done) | (simp; omega)))) ?_ | refine rv0 rfl rfl rfl (y_index_slc Tryz.underlying104 Tryz.sizeOf106 rfl rfl (by (repeat (first|exact zH _|apply zT));done) (by (first | omega | (dsimp only; omega) | (simp; done) | (simp; omega)))) ?_
  refine rv0 rfl rfl rfl ((y_loads_ro ⟨Tryz.isAgg106, Tryz.sizeOf106⟩ (vs := [.int .i64 2, .int .u64 0, .string (str []), .slice q2 (m.map entN).length cap2]) rfl rfl (fun j u hj => cell_mono hR4 (hcell2 j u hj)))) ?_
  refine rj_call (wn0 rfl) rfl Tryz.call93 rfl (entries_t m _ (hr2.mono hR4) (fun e he => (h3 e he).1) h4) (by (repeat (first|exact zN _|(apply zS;focus (repeat (first|exact zH _|apply zT)))))) (fun _ _ _ _ h => h.elim) ?_
  rintro r R5 L' hR5 ⟨⟨vm, rfl, hvm⟩, rfl⟩
  try simp only [List.cons_append, List.nil_append]
  refine rv0 rfl rfl rfl (y_move rfl) ?_
  refine rv0 rfl rfl rfl (y_extract rfl rfl) ?_
  refine rv0 rfl rfl rfl (y_extract rfl rfl) ?_
  refine rv0 rfl rfl rfl (y_assign rfl) ?_
  refine rv0 rfl rfl rfl (y_assign rfl) ?_
  refine rj_nil ?_
  refine hK8 _ _ _ ?_
  refine cj_env (eL 0 rfl (eL 5 rfl (eL 6 rfl (eL 7 rfl eN)))) ?_
  refine cj_seq (fun K9 hK9 => ?_)
  refine cj_seq (fun K10 hK10 => ?_)
  refine cj_draw (by kernel_rfl) (by kernel_rfl) ?_
  refine qj_val (wn0 rfl) rfl rfl (y_move rfl) ?_
  refine qj_val (wn0 rfl) rfl rfl (y_not rfl) ?_
  refine qj_val (wn0 rfl) rfl rfl (y_move rfl) ?_
  refine qj_val (wn1 rfl rfl rfl rfl) rfl rfl (y_move rfl) ?_
  first | refine qj_val (wn1 rfl rfl rfl rfl) rfl rfl (y_indexAddr Tryz.underlying104 Tryz.sizeOf106 rfl rfl (by (first | omega | (dsimp only; omega) | (simp; done) | (simp; omega)))) ?_ | refine qj_val (wn1 rfl rfl rfl rfl) rfl rfl (y_index_slc Tryz.underlying104 Tryz.sizeOf106 rfl rfl (by (repeat (first|exact zH _|apply zT));done) (by (first | omega | (dsimp only; omega) | (simp; done) | (simp; omega)))) ?_
  refine qj_val (wn1 rfl rfl rfl rfl) rfl rfl (y_fieldAddr (k := 1) Tryz.underlying106 rfl (n := 1) (by decide) Tryz.sizeOf31 rfl) ?_
  refine qj_val (wn1 rfl rfl rfl rfl) rfl rfl ((y_load_ro ⟨Tryz.isAgg31, Tryz.sizeOf31⟩ rfl (cell_mono (Hp.le_trans hR4 hR5) hn1))) ?_
  refine qj_val (wn1 rfl rfl rfl rfl) rfl rfl (y_move rfl) ?_
  refine qj_val (wn1 rfl rfl rfl rfl) rfl rfl (y_nilCheck rfl) ?_
  refine qj_val (wn1 rfl rfl rfl rfl) rfl rfl (y_fieldAddr (k := 4) Tryz.underlying87 rfl (n := 1) (by decide) Tryz.sizeOf31 rfl) ?_
  first | refine qj_val (wn1 rfl rfl rfl rfl) rfl rfl (y_load ⟨Tryz.isAgg31, Tryz.sizeOf31⟩ rfl (by (repeat (first|exact zH _|apply zT));done) rfl) ?_ | refine qj_val (wn1 rfl rfl rfl rfl) rfl rfl (y_load_slc ⟨Tryz.isAgg31, Tryz.sizeOf31⟩ rfl (by (repeat (first|exact zH _|apply zT));done) rfl) ?_
  refine qj_val (wn1 rfl rfl rfl rfl) rfl rfl ((Yld.to (u := .bool false) (y_lss rfl rfl) (by rw [decide_eq_false (by omega)]))) ?_
  refine qj_val (wn0 rfl) rfl rfl (y_pick_f rfl rfl) ?_
  refine qj_val (wn0 rfl) rfl rfl (y_move rfl) ?_
  refine qj_val (wn1 rfl rfl rfl rfl) rfl rfl (y_move rfl) ?_
  first | refine qj_val (wn1 rfl rfl rfl rfl) rfl rfl (y_indexAddr Tryz.underlying104 Tryz.sizeOf106 rfl rfl (by (first | omega | (dsimp only; omega) | (simp; done) | (simp; omega)))) ?_ | refine qj_val (wn1 rfl rfl rfl rfl) rfl rfl (y_index_slc Tryz.underlying104 Tryz.sizeOf106 rfl rfl (by (repeat (first|exact zH _|apply zT));done) (by (first | omega | (dsimp only; omega) | (simp; done) | (simp; omega)))) ?_
  refine qj_val (wn1 rfl rfl rfl rfl) rfl rfl (y_fieldAddr (k := 1) Tryz.underlying106 rfl (n := 1) (by decide) Tryz.sizeOf31 rfl) ?_
  refine qj_val (wn1 rfl rfl rfl rfl) rfl rfl ((y_load_ro ⟨Tryz.isAgg31, Tryz.sizeOf31⟩ rfl (cell_mono (Hp.le_trans hR4 hR5) hn1))) ?_
  refine qj_val (wn1 rfl rfl rfl rfl) rfl rfl (y_move rfl) ?_
  refine qj_val (wn1 rfl rfl rfl rfl) rfl rfl (y_call Tryz.call19 rfl (lgLast_q b d va g hg (hva.mono (Hp.le_trans hR4 hR5))) (by (repeat (first|exact zN _|(apply zS;focus (repeat (first|exact zH _|apply zT))))))) ?_
  refine qj_val (wn1 rfl rfl rfl rfl) rfl rfl ((Yld.to (u := .bool false) (y_gtr rfl rfl) (by rw [decide_eq_false (by omega)]))) ?_
  refine qj_val (wn0 rfl) rfl rfl (y_pick_f rfl rfl) ?_
  refine qj_nil ?_
  refine hK10 _ _ _ ?_
  refine cj_env (eL 0 rfl (eL 5 rfl (eL 6 rfl (eL 90 rfl eN)))) ?_
  refine cj_cond_f rfl ?_
  refine cj_skip ?_
  refine hK9 _ _ _ ?_
  refine cj_seq (fun K11 hK11 => ?_)
  refine cj_region ?_
  refine rv0 rfl rfl rfl (y_move rfl) ?_
  refine rv0 rfl rfl rfl (y_move rfl) ?_
  first | refine rv0 rfl rfl rfl (y_indexAddr Tryz.underlying104 Tryz.sizeOf106 rfl rfl (by (first | omega | (dsimp only; omega) | (simp; done) | (simp; omega)))) ?_ | refine rv0 rfl rfl rfl (y_index_slc Tryz.underlying104 Tryz.sizeOf106 rfl rfl (by (repeat (first|exact zH _|apply zT));done) (by (first | omega | (dsimp only; omega) | (simp; done) | (simp; omega)))) ?_
  refine rv0 rfl rfl rfl (y_fieldAddr (k := 1) Tryz.underlying106 rfl (n := 1) (by decide) Tryz.sizeOf31 rfl) ?_
  refine rv0 rfl rfl rfl ((y_load_ro ⟨Tryz.isAgg31, Tryz.sizeOf31⟩ rfl (cell_mono (Hp.le_trans hR4 hR5) hn1))) ?_
  refine rv0 rfl rfl rfl (y_move rfl) ?_
  refine rj_call (wn0 rfl) rfl Tryz.call94 rfl (lgAdd0_t b d va vm g i m hg ⟨h1, h2⟩ (hva.mono (Hp.le_trans hR4 hR5)) hvm (by omega)) (by (repeat (first|exact zN _|(apply zS;focus (repeat (first|exact zH _|apply zT)))))) (fun _ _ _ _ h => h.elim) ?_
  rintro r R6 L' hR6 ⟨va2, hva2, rfl⟩
  try simp only [List.cons_append, List.nil_append]
  refine rj_nil ?_
  refine hK11 _ _ _ ?_
  refine cj_env eN ?_
  refine cj_seq (fun K12 hK12 => ?_)
  refine cj_region ?_
  refine rv0 rfl rfl rfl (y_assign rfl) ?_
  refine rj_nil ?_
  refine hK12 _ _ _ ?_
  refine cj_ret ?_
  refine hret _ _ _ ?_
  apply ej_ret Tryz.results57 (.cons (rv_tmp rfl) .nil) _ [lgB b d va2 (g.play (.add i m))] (by exact Hp.le_trans hR4 (Hp.le_trans hR5 hR6)) rfl
  case hp => exact ⟨rfl, va2, hva2, rfl⟩
  case hS => (repeat (first|exact zR _|(apply zP;focus (repeat (first|exact zH _|apply zT)))|apply zD|exact zA _ _))
theorem replayAll_t {R : Hp} (b : Nat) (d : Option Addr) (va : Value) (g h : LG) (hh : h.ok) (hvo : va.oneCell' = true) (cx : List Value) (hx : RepN R (Rec.all h).nd cx) :
    Tri Tryz.prog 57 [.pointer (some ⟨b, 0, none⟩), .agg ⟨cx⟩] R [lgB b d va g] (fun x R' L' => x = .bool true ∧ ∃ va', FrX entE R' (g.play (.all h)).all va' ∧ L' = [lgB b d va' (g.play (.all h))]) := by
  have hb := hh.base
  have hv := hh.vote
  obtain ⟨q, cap, rfl, hl⟩ := RepN.kids (k := 2) (n := 0) (s := []) (l := [numN 2, numN h.term.toNat, numN (h.vote + 1).toNat, numN h.base.toNat, numN h.baseT.toNat, strN h.state, listN h.all]) hx
  obtain ⟨b0, o0, _, rfl, _⟩ := hl.at (i := 0) rfl
  obtain ⟨_, _, _, hk0, hn0, _, _⟩ := hl.kid (i := 0) rfl
  obtain ⟨_, _, _, _, hn1, _, _⟩ := hl.kid (i := 1) rfl
  obtain ⟨_, _, _, _, hn2, _, _⟩ := hl.kid (i := 2) rfl
  obtain ⟨_, _, _, _, hn3, _, _⟩ := hl.kid (i := 3) rfl
  obtain ⟨_, _, _, _, hn4, _, _⟩ := hl.kid (i := 4) rfl
  obtain ⟨_, _, _, _, _, hs5, _⟩ := hl.kid (i := 5) rfl
  obtain ⟨_, _, _, e2, _, hr2, hcell2⟩ := hl.at (i := 6) (x := listN h.all) rfl
  cases e2
  obtain ⟨q2, cap2, rfl, hl2⟩ := RepN.kids (k := 2) (n := 0) (s := []) (l := h.all.map entN) hr2
  rw [(toNat64 hh.term).2] at hn1
  rw [show (((h.vote + 1).toNat : Nat) : Int) = h.vote + 1 by omega] at hn2
  rw [show ((h.base.toNat : Nat) : Int) = h.base by omega] at hn3
  rw [(toNat64 hh.baseT).2] at hn4
  refine tri_of Tryz.func57 rfl Tryz.ntmps57 rfl (fun σ F Q hret hend hpan => ?_)
  try simp only [List.cons_append, List.nil_append]
  refine cj_env (eL 0 rfl (eL 1 rfl eN)) ?_
  unfold lgB lgC
  refine cj_seq (fun K1 hK1 => ?_)
  refine cj_region ?_
  refine rj_box (wn0 rfl) rfl rfl rfl (fun bx => ?_)
  refine rv0 rfl rfl rfl (y_assign rfl) ?_
  refine rj_nil ?_
  refine hK1 _ _ _ ?_
  refine cj_seq (fun K2 hK2 => ?_)
  refine cj_seq (fun K3 hK3 => ?_)
  refine cj_region ?_
  refine rv0 rfl rfl rfl (y_fieldAddr (k := 3) Tryz.underlying106 rfl (n := 1) (by decide) Tryz.sizeOf104 rfl) ?_
  first | refine rv0 rfl rfl rfl (y_load ⟨Tryz.isAgg104, Tryz.sizeOf104⟩ rfl (by (repeat (first|exact zH _|apply zT));done) rfl) ?_ | refine rv0 rfl rfl rfl (y_load_slc ⟨Tryz.isAgg104, Tryz.sizeOf104⟩ rfl (by (repeat (first|exact zH _|apply zT));done) rfl) ?_
  first | refine rv0 rfl rfl rfl (y_len_sl Tryz.underlying104 rfl) ?_ | refine rv0 rfl rfl rfl (y_len_slc Tryz.underlying104 rfl (by (repeat (first|exact zH _|apply zT));done)) ?_
  refine rv0 rfl rfl rfl (y_eql rfl rfl) ?_
  refine rv0 rfl rfl rfl (y_move rfl) ?_
  refine rj_val (wn1 rfl rfl rfl rfl) rfl rfl (y_fieldAddr (k := 3) Tryz.underlying106 rfl (n := 1) (by decide) Tryz.sizeOf104 rfl) ?_
  first | refine rj_val (wn1 rfl rfl rfl rfl) rfl rfl (y_load ⟨Tryz.isAgg104, Tryz.sizeOf104⟩ rfl (by (repeat (first|exact zH _|apply zT));done) rfl) ?_ | refine rj_val (wn1 rfl rfl rfl rfl) rfl rfl (y_load_slc ⟨Tryz.isAgg104, Tryz.sizeOf104⟩ rfl (by (repeat (first|exact zH _|apply zT));done) rfl) ?_
  first | refine rj_val (wn1 rfl rfl rfl rfl) rfl rfl (y_indexAddr Tryz.underlying104 Tryz.sizeOf106 rfl rfl (by (first | omega | (dsimp only; omega) | (simp; done) | (simp; omega)))) ?_ | refine rj_val (wn1 rfl rfl rfl rfl) rfl rfl (y_index_slc Tryz.underlying104 Tryz.sizeOf106 rfl rfl (by (repeat (first|exact zH _|apply zT));done) (by (first | omega | (dsimp only; omega) | (simp; done) | (simp; omega)))) ?_
  refine rj_val (wn1 rfl rfl rfl rfl) rfl rfl (y_fieldAddr (k := 0) Tryz.underlying106 rfl (n := 1) (by decide) Tryz.sizeOf3 rfl) ?_
  refine rj_val (wn1 rfl rfl rfl rfl) rfl rfl ((y_load_ro ⟨Tryz.isAgg3, Tryz.sizeOf3⟩ rfl hk0)) ?_
  refine rj_val (wn1 rfl rfl rfl rfl) rfl rfl (y_neq rfl rfl) ?_
  refine rv0 rfl rfl rfl (y_pick_f rfl rfl) ?_
  refine rj_nil ?_
  refine hK3 _ _ _ ?_
  refine cj_env (eL 0 rfl (eL 3 rfl (eL 21 rfl eN))) ?_
  refine cj_cond_f rfl ?_
  refine cj_skip ?_
  refine hK2 _ _ _ ?_
  refine cj_seq (fun K4 hK4 => ?_)
  refine cj_region ?_
  refine rv0 rfl rfl rfl (y_fieldAddr (k := 3) Tryz.underlying106 rfl (n := 1) (by decide) Tryz.sizeOf104 rfl) ?_
  first | refine rv0 rfl rfl rfl (y_load ⟨Tryz.isAgg104, Tryz.sizeOf104⟩ rfl (by (repeat (first|exact zH _|apply zT));done) rfl) ?_ | refine rv0 rfl rfl rfl (y_load_slc ⟨Tryz.isAgg104, Tryz.sizeOf104⟩ rfl (by (repeat (first|exact zH _|apply zT));done) rfl) ?_
  refine rv0 rfl rfl rfl (y_assign rfl) ?_
  refine rj_nil ?_
  refine hK4 _ _ _ ?_
  refine cj_env (eL 0 rfl (eL 5 rfl eN)) ?_
  refine cj_seq (fun K5 hK5 => ?_)
  refine cj_block ?_
  refine cj_seq (fun K6 hK6 => ?_)
  refine cj_region ?_
  refine rv0 rfl rfl rfl (y_move rfl) ?_
  first | refine rv0 rfl rfl rfl (y_indexAddr Tryz.underlying104 Tryz.sizeOf106 rfl rfl (by (first | omega | (dsimp only; omega) | (simp; done) | (simp; omega)))) ?_ | refine rv0 rfl rfl rfl (y_index_slc Tryz.underlying104 Tryz.sizeOf106 rfl rfl (by (repeat (first|exact zH _|apply zT));done) (by (first | omega | (dsimp only; omega) | (simp; done) | (simp; omega)))) ?_
  refine rv0 rfl rfl rfl (y_fieldAddr (k := 1) Tryz.underlying106 rfl (n := 1) (by decide) Tryz.sizeOf31 rfl) ?_
  refine rv0 rfl rfl rfl ((y_load_ro ⟨Tryz.isAgg31, Tryz.sizeOf31⟩ rfl hn0)) ?_
  refine rv0 rfl rfl rfl (y_eql rfl rfl) ?_
  refine rv0 rfl rfl rfl (y_move rfl) ?_
  refine rj_skip (wn2 rfl rfl rfl rfl rfl) rfl rfl ?_
  refine rj_skip (wn2 rfl rfl rfl rfl rfl) rfl rfl ?_
  refine rj_skip (wn2 rfl rfl rfl rfl rfl) rfl rfl ?_
  refine rv0 rfl rfl rfl (y_pick_f rfl rfl) ?_
  refine rv0 rfl rfl rfl (y_assign rfl) ?_
  refine rj_nil ?_
  refine hK6 _ _ _ ?_
  refine cj_env (eL 0 rfl (eL 5 rfl (eL 24 rfl eN))) ?_
  refine cj_cond_f rfl ?_
  refine cj_seq (fun K7 hK7 => ?_)
  refine cj_region ?_
  refine rv0 rfl rfl rfl (y_move rfl) ?_
  first | refine rv0 rfl rfl rfl (y_indexAddr Tryz.underlying104 Tryz.sizeOf106 rfl rfl (by (first | omega | (dsimp only; omega) | (simp; done) | (simp; omega)))) ?_ | refine rv0 rfl rfl rfl (y_index_slc Tryz.underlying104 Tryz.sizeOf106 rfl rfl (by (repeat (first|exact zH _|apply zT));done) (by (first | omega | (dsimp only; omega) | (simp; done) | (simp; omega)))) ?_
  refine rv0 rfl rfl rfl (y_fieldAddr (k := 1) Tryz.underlying106 rfl (n := 1) (by decide) Tryz.sizeOf31 rfl) ?_
  refine rv0 rfl rfl rfl ((y_load_ro ⟨Tryz.isAgg31, Tryz.sizeOf31⟩ rfl hn0)) ?_
  refine rv0 rfl rfl rfl (y_eql rfl rfl) ?_
  refine rv0 rfl rfl rfl (y_move rfl) ?_
  refine rj_skip (wn2 rfl rfl rfl rfl rfl) rfl rfl ?_
  refine rj_skip (wn2 rfl rfl rfl rfl rfl) rfl rfl ?_
  refine rj_skip (wn2 rfl rfl rfl rfl rfl) rfl rfl ?_
  refine rv0 rfl rfl rfl (y_pick_f rfl rfl) ?_
  refine rv0 rfl rfl rfl (y_assign rfl) ?_
  refine rj_nil ?_
  refine hK7 _ _ _ ?_
  refine cj_env (eL 0 rfl (eL 5 rfl (eL 51 rfl eN))) ?_
  refine cj_cond_f rfl ?_
  refine cj_seq (fun K8 hK8 => ?_)
  refine cj_region ?_
  refine rv0 rfl rfl rfl (y_move rfl) ?_
  first | refine rv0 rfl rfl rfl (y_indexAddr Tryz.underlying104 Tryz.sizeOf106 rfl rfl (by (first | omega | (dsimp only; omega) | (simp; done) | (simp; omega)))) ?_ | refine rv0 rfl rfl rfl (y_index_slc Tryz.underlying104 Tryz.sizeOf106 rfl rfl (by (repeat (first|exact zH _|apply zT));done) (by (first | omega | (dsimp only; omega) | (simp; done) | (simp; omega)))) ?_
  refine rv0 rfl rfl rfl (y_fieldAddr (k := 1) Tryz.underlying106 rfl (n := 1) (by decide) Tryz.sizeOf31 rfl) ?_
  refine rv0 rfl rfl rfl ((y_load_ro ⟨Tryz.isAgg31, Tryz.sizeOf31⟩ rfl hn0)) ?_
  refine rv0 rfl rfl rfl (y_eql rfl rfl) ?_
  refine rv0 rfl rfl rfl (y_move rfl) ?_
  refine rj_val (wn1 rfl rfl rfl rfl) rfl rfl (y_move rfl) ?_
  refine rj_buildSlice (sz := 1) (wn1 rfl rfl rfl rfl) rfl Tryz.underlying152 Tryz.sizeOf3 Tryz.zeroValue3 rfl rfl rfl (by decide) (by decide) (fun b106 => ?_)
  refine rj_freeze (e := 3) (sz := 1) (n := 7) (v := .slice (some ⟨b106, 0, none⟩) 7 7) (xs := intsV [0, 0, 0, 0, 0, 1, 2]) (by (repeat (first|exact zH _|apply zT));done) (fun R4 hR4 hfr hxl => ?_)
  refine rj_val (wn1 rfl rfl rfl rfl) rfl rfl (y_call Tryz.call92 rfl (shape_q _ _ _ (hl.mono hR4) [0, 0, 0, 0, 0, 1, 2] _ (intsFr (l := [0, 0, 0, 0, 0, 1, 2]) hfr)) (by (repeat (first|exact zN _|(apply zS;focus (repeat (first|exact zH _|apply zT))))))) ?_
  refine rj_eq 107 rfl (v' := .bool true) (by simp [numN, strN, listN, Nd.kind]) ?_
  refine rv0 rfl rfl rfl (y_pick_t rfl rfl) ?_
  refine rv0 rfl rfl rfl (y_assign rfl) ?_
  refine rj_nil ?_
  refine hK8 _ _ _ ?_
  refine cj_env (eL 0 rfl (eL 5 rfl (eL 98 rfl eN))) ?_
  refine cj_cond_t rfl ?_
  refine cj_seq (fun K9 hK9 => ?_)
  refine cj_region ?_
  refine rv0 rfl rfl rfl (y_move rfl) ?_
  first | refine rv0 rfl rfl rfl (y_indexAddr Tryz.underlying104 Tryz.sizeOf106 rfl rfl (by (first | omega | (dsimp only; omega) | (simp; done) | (simp; omega)))) ?_ | refine rv0 rfl rfl rfl (y_index_slc Tryz.underlying104 Tryz.sizeOf106 rfl rfl (by (repeat (first|exact zH _|apply zT));done) (by (first | omega | (dsimp only; omega) | (simp; done) | (simp; omega)))) ?_
  refine rv0 rfl rfl rfl ((y_loads_ro ⟨Tryz.isAgg106, Tryz.sizeOf106⟩ (vs := [.int .i64 2, .int .u64 0, .string (str []), .slice q2 (h.all.map entN).length cap2]) rfl rfl (fun j u hj => cell_mono hR4 (hcell2 j u hj)))) ?_
  refine rj_call (wn0 rfl) rfl Tryz.call93 rfl (entries_t h.all _ (hr2.mono hR4) (fun e he => (hh.all e he).1) hh.alln) (by (repeat (first|exact zN _|(apply zS;focus (repeat (first|exact zH _|apply zT)))))) (fun _ _ _ _ h => h.elim) ?_
  rintro r R5 L' hR5 ⟨⟨vm, rfl, hvm⟩, rfl⟩
  try simp only [List.cons_append, List.nil_append]
  refine rv0 rfl rfl rfl (y_move rfl) ?_
  refine rv0 rfl rfl rfl (y_extract rfl rfl) ?_
  refine rv0 rfl rfl rfl (y_extract rfl rfl) ?_
  refine rv0 rfl rfl rfl (y_assign rfl) ?_
  refine rv0 rfl rfl rfl (y_assign rfl) ?_
  refine rj_nil ?_
  refine hK9 _ _ _ ?_
  refine cj_env (eL 0 rfl (eL 5 rfl (eL 8 rfl (eL 9 rfl eN)))) ?_
  refine cj_seq (fun K10 hK10 => ?_)
  have hvmo := hvm.one
  have hR45 := Hp.le_trans hR4 hR5
  refine cj_mixg (L := []) [0, 1, 2, 3, 4, 5, 6, 7, 8, 9, 10, 11, 12, 13, 14, 15, 16, 17, 18, 19, 20, 21, 22, 23, 24, 25, 26, 27, 28, 29, 30] [31, 32, 33, 34, 35, 36, 37, 38, 39, 40, 41, 42, 43] [44, 45, 46] _ (by (repeat (first|exact zR _|(apply zP;focus (repeat (first|exact zH _|apply zT)))|apply zD|exact zA _ _))) (by kernel_rfl) (by kernel_rfl) (by kernel_rfl) rfl ?_
  refine fj_val rfl rfl rfl (wn0 rfl) (fun R1 hR1 G => (y_move rfl)) ?_
  refine fj_val rfl rfl rfl (wn0 rfl) (fun R1 hR1 G => (y_move rfl)) ?_
  refine fj_val rfl rfl rfl (wn0 rfl) (fun R1 hR1 G => (y_move rfl)) ?_
  refine fj_val rfl rfl rfl (wn0 rfl) (fun R1 hR1 G => (y_move rfl)) ?_
  refine fj_val rfl rfl rfl (wn0 rfl) (fun R1 hR1 G => (y_move rfl)) ?_
  refine fj_val rfl rfl rfl (wn0 rfl) (fun R1 hR1 G => (y_move rfl)) ?_
  refine fj_val rfl rfl rfl (wn0 rfl) (fun R1 hR1 G => (y_move rfl)) ?_
  first | refine fj_val rfl rfl rfl (wn0 rfl) (fun R1 hR1 G => (y_indexAddr Tryz.underlying104 Tryz.sizeOf106 rfl rfl (by (first | omega | (dsimp only; omega) | (simp; done) | (simp; omega))))) ?_ | refine fj_val rfl rfl rfl (wn0 rfl) (fun R1 hR1 G => (y_index_slc Tryz.underlying104 Tryz.sizeOf106 rfl rfl (by (repeat (first|exact zH _|apply zT));done) (by (first | omega | (dsimp only; omega) | (simp; done) | (simp; omega))))) ?_
  refine fj_val rfl rfl rfl (wn0 rfl) (fun R1 hR1 G => (y_fieldAddr (k := 1) Tryz.underlying106 rfl (n := 1) (by decide) Tryz.sizeOf31 rfl)) ?_
  refine fj_val rfl rfl rfl (wn0 rfl) (fun R1 hR1 G => (y_load_ro ⟨Tryz.isAgg31, Tryz.sizeOf31⟩ rfl (cell_mono (Hp.le_trans hR45 hR1) hn1))) ?_
  refine fj_val rfl rfl rfl (wn0 rfl) (fun R1 hR1 G => (y_move rfl)) ?_
  first | refine fj_val rfl rfl rfl (wn0 rfl) (fun R1 hR1 G => (y_indexAddr Tryz.underlying104 Tryz.sizeOf106 rfl rfl (by (first | omega | (dsimp only; omega) | (simp; done) | (simp; omega))))) ?_ | refine fj_val rfl rfl rfl (wn0 rfl) (fun R1 hR1 G => (y_index_slc Tryz.underlying104 Tryz.sizeOf106 rfl rfl (by (repeat (first|exact zH _|apply zT));done) (by (first | omega | (dsimp only; omega) | (simp; done) | (simp; omega))))) ?_
  refine fj_val rfl rfl rfl (wn0 rfl) (fun R1 hR1 G => (y_fieldAddr (k := 1) Tryz.underlying106 rfl (n := 1) (by decide) Tryz.sizeOf31 rfl)) ?_
  refine fj_val rfl rfl rfl (wn0 rfl) (fun R1 hR1 G => (y_load_ro ⟨Tryz.isAgg31, Tryz.sizeOf31⟩ rfl (cell_mono (Hp.le_trans hR45 hR1) hn2))) ?_
  refine fj_val rfl rfl rfl (wn0 rfl) (fun R1 hR1 G => (y_conv_in Tryz.underlying31 Tryz.underlying3 rfl (by (simp only [IntKind.min, IntKind.max, IntKind.signed, IntKind.bits, Bool.false_eq_true, ite_false, ite_true]; omega)))) ?_
  refine fj_val rfl rfl rfl (wn0 rfl) (fun R1 hR1 G => (Yld.to (y_sub64 rfl rfl (by omega)) (u := .int .i64 h.vote) (by rw [show h.vote + 1 - 1 = h.vote by omega]))) ?_
  refine fj_val rfl rfl rfl (wn0 rfl) (fun R1 hR1 G => (y_move rfl)) ?_
  first | refine fj_val rfl rfl rfl (wn0 rfl) (fun R1 hR1 G => (y_indexAddr Tryz.underlying104 Tryz.sizeOf106 rfl rfl (by (first | omega | (dsimp only; omega) | (simp; done) | (simp; omega))))) ?_ | refine fj_val rfl rfl rfl (wn0 rfl) (fun R1 hR1 G => (y_index_slc Tryz.underlying104 Tryz.sizeOf106 rfl rfl (by (repeat (first|exact zH _|apply zT));done) (by (first | omega | (dsimp only; omega) | (simp; done) | (simp; omega))))) ?_
  refine fj_val rfl rfl rfl (wn0 rfl) (fun R1 hR1 G => (y_fieldAddr (k := 1) Tryz.underlying106 rfl (n := 1) (by decide) Tryz.sizeOf31 rfl)) ?_
  refine fj_val rfl rfl rfl (wn0 rfl) (fun R1 hR1 G => (y_load_ro ⟨Tryz.isAgg31, Tryz.sizeOf31⟩ rfl (cell_mono (Hp.le_trans hR45 hR1) hn3))) ?_
  refine fj_val rfl rfl rfl (wn0 rfl) (fun R1 hR1 G => (y_move rfl)) ?_
  first | refine fj_val rfl rfl rfl (wn0 rfl) (fun R1 hR1 G => (y_indexAddr Tryz.underlying104 Tryz.sizeOf106 rfl rfl (by (first | omega | (dsimp only; omega) | (simp; done) | (simp; omega))))) ?_ | refine fj_val rfl rfl rfl (wn0 rfl) (fun R1 hR1 G => (y_index_slc Tryz.underlying104 Tryz.sizeOf106 rfl rfl (by (repeat (first|exact zH _|apply zT));done) (by (first | omega | (dsimp only; omega) | (simp; done) | (simp; omega))))) ?_
  refine fj_val rfl rfl rfl (wn0 rfl) (fun R1 hR1 G => (y_fieldAddr (k := 1) Tryz.underlying106 rfl (n := 1) (by decide) Tryz.sizeOf31 rfl)) ?_
  refine fj_val rfl rfl rfl (wn0 rfl) (fun R1 hR1 G => (y_load_ro ⟨Tryz.isAgg31, Tryz.sizeOf31⟩ rfl (cell_mono (Hp.le_trans hR45 hR1) hn4))) ?_
  refine fj_val rfl rfl rfl (wn0 rfl) (fun R1 hR1 G => (y_move rfl)) ?_
  first | refine fj_val rfl rfl rfl (wn0 rfl) (fun R1 hR1 G => (y_indexAddr Tryz.underlying104 Tryz.sizeOf106 rfl rfl (by (first | omega | (dsimp only; omega) | (simp; done) | (simp; omega))))) ?_ | refine fj_val rfl rfl rfl (wn0 rfl) (fun R1 hR1 G => (y_index_slc Tryz.underlying104 Tryz.sizeOf106 rfl rfl (by (repeat (first|exact zH _|apply zT));done) (by (first | omega | (dsimp only; omega) | (simp; done) | (simp; omega))))) ?_
  refine fj_val rfl rfl rfl (wn0 rfl) (fun R1 hR1 G => (y_fieldAddr (k := 2) Tryz.underlying106 rfl (n := 1) (by decide) Tryz.sizeOf9 rfl)) ?_
  refine fj_val rfl rfl rfl (wn0 rfl) (fun R1 hR1 G => (y_load_ro ⟨Tryz.isAgg9, Tryz.sizeOf9⟩ rfl (cell_mono (Hp.le_trans hR45 hR1) hs5))) ?_
  refine fj_val rfl rfl rfl (wn0 rfl) (fun R1 hR1 G => (y_move rfl)) ?_
  refine fj_val rfl rfl rfl (wn0 rfl) (fun R1 hR1 G => (y_nilCheck rfl)) ?_
  refine fj_val rfl rfl rfl (wn0 rfl) (fun R1 hR1 G => (y_fieldAddr (k := 2) Tryz.underlying87 rfl (n := 1) (by decide) Tryz.sizeOf31 rfl)) ?_
  refine fj_nil ?_
  refine xj_rj rfl ?_
  try simp only [List.cons_append, List.nil_append, List.append_nil]
  refine rj_store ⟨Tryz.isAgg31, Tryz.sizeOf31⟩ (wn0 rfl) rfl rfl (by (first | rfl | assumption | (apply cutV_one; assumption))) (by (repeat (first|exact zH _|apply zT));done) rfl rfl ?_
  refine rj_xk (by (first | exact Hp.le_refl _ | assumption | exact Hp.le_trans ‹_› ‹_›)) (by (repeat (first|exact zR _|(apply zP;focus (repeat (first|exact zH _|apply zT)))|apply zD|exact zA _ _))) ?_
  refine xj_rj rfl ?_
  try simp only [List.cons_append, List.nil_append, List.append_nil]
  refine rv0 rfl rfl rfl (y_nilCheck rfl) ?_
  refine rj_xk (by (first | exact Hp.le_refl _ | assumption | exact Hp.le_trans ‹_› ‹_›)) (by (repeat (first|exact zR _|(apply zP;focus (repeat (first|exact zH _|apply zT)))|apply zD|exact zA _ _))) ?_
  refine xj_rj rfl ?_
  try simp only [List.cons_append, List.nil_append, List.append_nil]
  refine rv0 rfl rfl rfl (y_fieldAddr (k := 3) Tryz.underlying87 rfl (n := 1) (by decide) Tryz.sizeOf3 rfl) ?_
  refine rj_xk (by (first | exact Hp.le_refl _ | assumption | exact Hp.le_trans ‹_› ‹_›)) (by (repeat (first|exact zR _|(apply zP;focus (repeat (first|exact zH _|apply zT)))|apply zD|exact zA _ _))) ?_
  refine xj_rj rfl ?_
  try simp only [List.cons_append, List.nil_append, List.append_nil]
  refine rj_store ⟨Tryz.isAgg3, Tryz.sizeOf3⟩ (wn0 rfl) rfl rfl (by (first | rfl | assumption | (apply cutV_one; assumption))) (by (repeat (first|exact zH _|apply zT));done) rfl rfl ?_
  refine rj_xk (by (first | exact Hp.le_refl _ | assumption | exact Hp.le_trans ‹_› ‹_›)) (by (repeat (first|exact zR _|(apply zP;focus (repeat (first|exact zH _|apply zT)))|apply zD|exact zA _ _))) ?_
  refine xj_rj rfl ?_
  try simp only [List.cons_append, List.nil_append, List.append_nil]
  refine rv0 rfl rfl rfl (y_nilCheck rfl) ?_
  refine rj_xk (by (first | exact Hp.le_refl _ | assumption | exact Hp.le_trans ‹_› ‹_›)) (by (repeat (first|exact zR _|(apply zP;focus (repeat (first|exact zH _|apply zT)))|apply zD|exact zA _ _))) ?_
  refine xj_rj rfl ?_
  try simp only [List.cons_append, List.nil_append, List.append_nil]
  refine rv0 rfl rfl rfl (y_fieldAddr (k := 4) Tryz.underlying87 rfl (n := 1) (by decide) Tryz.sizeOf31 rfl) ?_
  refine rj_xk (by (first | exact Hp.le_refl _ | assumption | exact Hp.le_trans ‹_› ‹_›)) (by (repeat (first|exact zR _|(apply zP;focus (repeat (first|exact zH _|apply zT)))|apply zD|exact zA _ _))) ?_
  refine xj_rj rfl ?_
  try simp only [List.cons_append, List.nil_append, List.append_nil]
  refine rj_store ⟨Tryz.isAgg31, Tryz.sizeOf31⟩ (wn0 rfl) rfl rfl (by (first | rfl | assumption | (apply cutV_one; assumption))) (by (repeat (first|exact zH _|apply zT));done) rfl rfl ?_
  refine rj_xk (by (first | exact Hp.le_refl _ | assumption | exact Hp.le_trans ‹_› ‹_›)) (by (repeat (first|exact zR _|(apply zP;focus (repeat (first|exact zH _|apply zT)))|apply zD|exact zA _ _))) ?_
  refine xj_rj rfl ?_
  try simp only [List.cons_append, List.nil_append, List.append_nil]
  refine rv0 rfl rfl rfl (y_nilCheck rfl) ?_
  refine rj_xk (by (first | exact Hp.le_refl _ | assumption | exact Hp.le_trans ‹_› ‹_›)) (by (repeat (first|exact zR _|(apply zP;focus (repeat (first|exact zH _|apply zT)))|apply zD|exact zA _ _))) ?_
  refine xj_rj rfl ?_
  try simp only [List.cons_append, List.nil_append, List.append_nil]
  refine rv0 rfl rfl rfl (y_fieldAddr (k := 5) Tryz.underlying87 rfl (n := 1) (by decide) Tryz.sizeOf31 rfl) ?_
  refine rj_xk (by (first | exact Hp.le_refl _ | assumption | exact Hp.le_trans ‹_› ‹_›)) (by (repeat (first|exact zR _|(apply zP;focus (repeat (first|exact zH _|apply zT)))|apply zD|exact zA _ _))) ?_
  refine xj_rj rfl ?_
  try simp only [List.cons_append, List.nil_append, List.append_nil]
  refine rj_store ⟨Tryz.isAgg31, Tryz.sizeOf31⟩ (wn0 rfl) rfl rfl (by (first | rfl | assumption | (apply cutV_one; assumption))) (by (repeat (first|exact zH _|apply zT));done) rfl rfl ?_
  refine rj_xk (by (first | exact Hp.le_refl _ | assumption | exact Hp.le_trans ‹_› ‹_›)) (by (repeat (first|exact zR _|(apply zP;focus (repeat (first|exact zH _|apply zT)))|apply zD|exact zA _ _))) ?_
  refine xj_rj rfl ?_
  try simp only [List.cons_append, List.nil_append, List.append_nil]
  refine rv0 rfl rfl rfl (y_nilCheck rfl) ?_
  refine rj_xk (by (first | exact Hp.le_refl _ | assumption | exact Hp.le_trans ‹_› ‹_›)) (by (repeat (first|exact zR _|(apply zP;focus (repeat (first|exact zH _|apply zT)))|apply zD|exact zA _ _))) ?_
  refine xj_rj rfl ?_
  try simp only [List.cons_append, List.nil_append, List.append_nil]
  refine rv0 rfl rfl rfl (y_fieldAddr (k := 6) Tryz.underlying87 rfl (n := 1) (by decide) Tryz.sizeOf9 rfl) ?_
  refine rj_xk (by (first | exact Hp.le_refl _ | assumption | exact Hp.le_trans ‹_› ‹_›)) (by (repeat (first|exact zR _|(apply zP;focus (repeat (first|exact zH _|apply zT)))|apply zD|exact zA _ _))) ?_
  refine xj_rj rfl ?_
  try simp only [List.cons_append, List.nil_append, List.append_nil]
  refine rj_store ⟨Tryz.isAgg9, Tryz.sizeOf9⟩ (wn0 rfl) rfl rfl (by (first | rfl | assumption | (apply cutV_one; assumption))) (by (repeat (first|exact zH _|apply zT));done) rfl rfl ?_
  refine rj_xk (by (first | exact Hp.le_refl _ | assumption | exact Hp.le_trans ‹_› ‹_›)) (by (repeat (first|exact zR _|(apply zP;focus (repeat (first|exact zH _|apply zT)))|apply zD|exact zA _ _))) ?_
  refine xj_nil ?_
  try simp only [List.cons_append, List.nil_append, List.append_nil]
  refine rv0 rfl rfl rfl (y_nilCheck rfl) ?_
  refine rv0 rfl rfl rfl (y_fieldAddr (k := 7) Tryz.underlying87 rfl (n := 1) (by decide) Tryz.sizeOf32 rfl) ?_
  refine rj_store ⟨Tryz.isAgg32, Tryz.sizeOf32⟩ (wn0 rfl) rfl rfl (by (first | rfl | assumption | (apply cutV_one; assumption))) (by (repeat (first|exact zH _|apply zT));done) rfl rfl ?_
  refine rj_nil ?_
  refine hK10 _ _ _ ?_
  refine cj_env (eL 9 rfl eN) ?_
  refine cj_seq (fun K11 hK11 => ?_)
  refine cj_region ?_
  refine rv0 rfl rfl rfl (y_move rfl) ?_
  refine rv0 rfl rfl rfl (y_assign rfl) ?_
  refine rj_nil ?_
  refine hK11 _ _ _ ?_
  refine cj_ret ?_
  refine hret _ _ _ ?_
  apply ej_ret Tryz.results57 (.cons (rv_tmp rfl) .nil) _ [lgB b d vm (g.play (.all h))] (by exact Hp.le_trans hR4 hR5) rfl
  case hp => exact ⟨rfl, vm, hvm, rfl⟩
  case hS => (repeat (first|exact zR _|(apply zP;focus (repeat (first|exact zH _|apply zT)))|apply zD|exact zA _ _))
theorem replay_t {R : Hp} (b : Nat) (d : Option Addr) (va : Value) (g : LG) (r : Rec) (hg : g.ok) (hm : r.may g) (hva : FrX entE R g.all va) (cx : List Value) (hx : RepN R r.nd cx) :
    Tri Tryz.prog 57 [.pointer (some ⟨b, 0, none⟩), .agg ⟨cx⟩] R [lgB b d va g] (fun x R' L' => x = .bool true ∧ ∃ va', FrX entE R' (g.play r).all va' ∧ L' = [lgB b d va' (g.play r)]) := by
  cases r with
  | term t v => exact Tri.mono (replayTerm_t b d va g t v hm cx hx) (fun _ _ _ hR h => ⟨h.1, va, hva.mono hR, h.2⟩) (fun _ _ _ _ h => h)
  | add i m => exact replayAdd_t b d va g i m hg hm hva cx hx
  | all h => exact replayAll_t b d va g h hm hva.one cx hx
end V
end Go.Proofs.YtjdbigplednihaaGreat
set_option linter.unusedSimpArgs false
set_option linter.unusedVariables false
set_option maxRecDepth 100000
namespace Go.Proofs.YtjdbigplednihaaGreat
open Go.RowKit
namespace V
set_option maxHeartbeats 4000000
theorem or_hi (A B s : Nat) (hA : A < 2 ^ s) (h : A + B * 2 ^ s < 9223372036854775808) : bitOr .i64 ((B * 2 ^ s : Nat) : Int) ((A : Nat) : Int) = ((A + B * 2 ^ s : Nat) : Int) := by
  rw [← or_add A B s hA h]
  unfold bitOr
  rw [BitVec.or_comm]
theorem be4_or (l : Bs) : bitOr .i64 (bitOr .i64 (bitOr .i64 (IntKind.i64.wrap (byteAt l 0 * 2 ^ min (24 : Int).toNat IntKind.i64.bits)) (IntKind.i64.wrap (byteAt l 1 * 2 ^ min (16 : Int).toNat IntKind.i64.bits))) (IntKind.i64.wrap (byteAt l 2 * 2 ^ min (8 : Int).toNat IntKind.i64.bits))) (byteAt l 3) = ((be4N l : Nat) : Int) := by
  have e : ∀ i : Nat, byteAt l (i : Int) = (((l.getD i 0).toNat : Nat) : Int) := fun i => rfl
  have b : ∀ i : Nat, (l.getD i 0).toNat < 256 := fun i => (l.getD i 0).toNat_lt
  have b0 := b 0
  have b1 := b 1
  have b2 := b 2
  have b3 := b 3
  rw [show byteAt l 0 = (((l.getD 0 0).toNat : Nat) : Int) from rfl, show byteAt l 1 = (((l.getD 1 0).toNat : Nat) : Int) from rfl, show byteAt l 2 = (((l.getD 2 0).toNat : Nat) : Int) from rfl, show byteAt l 3 = (((l.getD 3 0).toNat : Nat) : Int) from rfl]
  unfold be4N
  generalize (l.getD 0 0).toNat = x0 at *
  generalize (l.getD 1 0).toNat = x1 at *
  generalize (l.getD 2 0).toNat = x2 at *
  generalize (l.getD 3 0).toNat = x3 at *
  rw [shl_nat x0 24 24 rfl (by decide) (by omega), shl_nat x1 16 16 rfl (by decide) (by omega), shl_nat x2 8 8 rfl (by decide) (by omega)]
  rw [or_hi (x1 * 2 ^ 16) x0 24 (by omega) (by omega)]
  rw [show x1 * 2 ^ 16 + x0 * 2 ^ 24 = (x1 + x0 * 256) * 2 ^ 16 by omega, or_hi (x2 * 2 ^ 8) (x1 + x0 * 256) 16 (by omega) (by omega)]
  rw [show x2 * 2 ^ 8 + (x1 + x0 * 256) * 2 ^ 16 = (x2 + (x1 + x0 * 256) * 256) * 2 ^ 8 by omega, or_hi x3 (x2 + (x1 + x0 * 256) * 256) 8 (by omega) (by omega)]
  congr 1
  omega
def DK.open (D : DK) (rs : List Rec) (tail : Bs) : Int × DK := if D.down = true then (3, D) else if tail = [] then (0, D) else D.swap (recsB rs)
theorem recsB_cons (r : Rec) (l : List Rec) : recsB (r :: l) = r.bytes ++ recsB l := by simp [recsB]
theorem plays_nil {g h : LG} (p : Plays g [] h) : g = h := by cases p; rfl
theorem rest_nil {rs : List Rec} {rest tail : Bs} {g h : LG} (hp : Plays g rs h) (hr : rest = recsB rs ++ tail) (ht : rest.length < 4 ∨ be4N rest > rest.length - 4) : rs = [] := by
  cases hp with
  | nil => rfl
  | @cons _ _ r l h1 h2 h3 h4 =>
    exfalso
    have e : rest = be4 (wr r.nd).length ++ (wr r.nd ++ (recsB l ++ tail)) := by rw [hr, recsB_cons, Rec.bytes]; simp
    have e2 : be4N rest = (wr r.nd).length := by rw [e, be4_N (by omega)]
    have e3 : rest.length = 4 + (wr r.nd).length + (recsB l ++ tail).length := by rw [e]; simp [be4_len]; omega
    omega
theorem rest_cons {rs : List Rec} {rest tail : Bs} {g h : LG} (hp : Plays g rs h) (hr : rest = recsB rs ++ tail) (ht : torn tail) (h4 : 4 ≤ rest.length) (hn : be4N rest ≤ rest.length - 4) :
    ∃ r rs3, rs = r :: rs3 ∧ g.ok ∧ r.may g ∧ (wr r.nd).length ≤ 16777216 ∧ Plays (g.play r) rs3 h := by
  cases hp with
  | nil _ => exact absurd (show torn rest by rw [hr]; exact ht) (by unfold torn; omega)
  | cons h1 h2 h3 h4 => exact ⟨_, _, rfl, h1, h2, h3, h4⟩
theorem open_t {R : Hp} (bd : Nat) (u : Value) (D : DK) (m : Nat) (rs : List Rec) (tail : Bs) (h : LG) (hD : D.ok m) (hm : m ≤ 900000000) (hb : D.b = recsB rs ++ tail) (ht : torn tail) (hp : Plays LG.new rs h) :
    Tri Tryz.prog 24 [.pointer (some ⟨bd, 0, none⟩)] R [dkB bd u D, dkS u D] (fun x R' L' => ∃ p u', x = tupOf [p, .int .i64 (D.open rs tail).1] ∧
      ((p = .pointer none ∧ (D.open rs tail).1 ≠ 0 ∧ L' = [dkB bd u' (D.open rs tail).2, dkS u' (D.open rs tail).2]) ∨
       (∃ b va, p = .pointer (some ⟨b, 0, none⟩) ∧ (D.open rs tail).1 = 0 ∧ FrX entE R' h.all va ∧ L' = [lgB b (some ⟨bd, 0, none⟩) va h, dkB bd u' (D.open rs tail).2, dkS u' (D.open rs tail).2]))) := by
  have hbl := hD.2.1
  obtain ⟨B, hB⟩ : ∃ B, B = D.b := ⟨_, rfl⟩
  have hBl : B.length ≤ 900000000 := by rw [hB]; omega
  refine tri_of Tryz.func24 rfl Tryz.ntmps24 rfl (fun σ F Q hret hend hpan => ?_)
  try simp only [List.cons_append, List.nil_append]
  refine cj_env (eL 0 rfl eN) ?_
  refine cj_seq (fun K1 hK1 => ?_)
  refine cj_region ?_
  refine rv0 rfl rfl rfl (y_assign rfl) ?_
  refine rv0 rfl rfl rfl (y_assign rfl) ?_
  refine rj_nil ?_
  refine hK1 _ _ _ ?_
  refine cj_seq (fun K2 hK2 => ?_)
  refine cj_region ?_
  refine rv0 rfl rfl rfl (y_move rfl) ?_
  refine rv0 rfl rfl rfl (y_call Tryz.call55 rfl (read_q bd u D) (by (repeat (first|exact zN _|(apply zS;focus (repeat (first|exact zH _|apply zT))))))) ?_
  refine rv0 rfl rfl rfl (y_move rfl) ?_
  refine rv0 rfl rfl rfl (y_extract rfl rfl) ?_
  refine rv0 rfl rfl rfl (y_extract rfl rfl) ?_
  refine rv0 rfl rfl rfl (y_assign rfl) ?_
  refine rv0 rfl rfl rfl (y_assign rfl) ?_
  refine rj_nil ?_
  refine hK2 _ _ _ ?_
  refine cj_env (eL 0 rfl (eL 4 rfl (eL 5 rfl eN))) ?_
  refine cj_seq (fun K3 hK3 => ?_)
  refine cj_seq (fun K4 hK4 => ?_)
  refine cj_region ?_
  refine rv0 rfl rfl rfl (y_move rfl) ?_
  refine rv0 rfl rfl rfl (y_neq rfl rfl) ?_
  refine rj_nil ?_
  refine hK4 _ _ _ ?_
  refine cj_cond rfl (fun hc19 => ?_) (fun hc19 => ?_)
  ·have f0 : D.down = true := by cases hdn : D.down with | true => rfl | false => simp [hdn] at hc19
   have ho : D.open rs tail = (3, D) := by unfold DK.open; rw [if_pos f0]
   simp only [f0, ite_true]
   refine cj_seq (fun K6 hK6 => ?_)
   refine cj_region ?_
   refine rv0 rfl rfl rfl (y_move rfl) ?_
   refine rv0 rfl rfl rfl (y_assign rfl) ?_
   refine rv0 rfl rfl rfl (y_assign rfl) ?_
   refine rj_nil ?_
   refine hK6 _ _ _ ?_
   refine cj_env (eL 2 rfl (eL 3 rfl eN)) ?_
   refine cj_ret ?_
   refine hret _ _ _ ?_
   apply ej_ret Tryz.results24 (.cons (rv_tmp rfl) (.cons (rv_tmp rfl) .nil)) _ [dkB bd u D, dkS u D] (by first | exact Hp.le_refl _ | exact hR3) rfl
   case hp => rw [ho]; exact ⟨_, u, rfl, .inl ⟨rfl, (by decide : (3 : Int) ≠ 0), rfl⟩⟩
   case hS => (repeat (first|exact zR _|(apply zP;focus (repeat (first|exact zH _|apply zT)))|apply zD|exact zA _ _))
  ·have f0 : D.down = false := by cases hdn : D.down with | false => rfl | true => simp [hdn] at hc19
   simp only [f0, Bool.false_eq_true, ite_false]
   rw [← hB]
   refine cj_skip ?_
   refine hK3 _ _ _ ?_
   refine cj_env (eL 0 rfl (eL 4 rfl eN)) ?_
   refine cj_seq (fun K7 hK7 => ?_)
   refine cj_region ?_
   refine rv0 rfl rfl rfl (y_move rfl) ?_
   refine rv0 rfl rfl rfl (y_build (cells := [_, _, _, _, _, _, _, _]) [(0, 1), (1, 1), (2, 1), (3, 1), (4, 1), (5, 1), (6, 1), (7, 1)] Tryz.underlying87 Tryz.zeroValue87 (fun _ => rfl) rfl rfl) ?_
   refine rj_box (wn0 rfl) rfl rfl rfl (fun bl => ?_)
   refine rv0 rfl rfl rfl (y_assign rfl) ?_
   refine rj_nil ?_
   refine hK7 _ _ _ ?_
   refine cj_env (eL 0 rfl (eL 4 rfl (eL 6 rfl eN))) ?_
   refine cj_seq (fun K8 hK8 => ?_)
   refine cj_region ?_
   refine rv0 rfl rfl rfl (y_assign rfl) ?_
   refine rj_nil ?_
   refine hK8 _ _ _ ?_
   refine cj_seq (fun K9 hK9 => ?_)
   have hJ15 : ∀ (x2 : Value × Hp × Nat), R.le x2.2.1 ∧ FrX entE x2.2.1 h.all x2.1 ∧ x2.2.2 + tail.length = B.length → EJ ⟨Tryz.prog, 88, σ⟩ K9 [(0, .pointer (some ⟨bd, 0, none⟩)), (4, .string (str B)), (6, .pointer (some ⟨bl, 0, none⟩)), (7, .int .i64 (x2.2.2 : Int))] x2.2.1 (lgB bl (some ⟨bd, 0, none⟩) x2.1 h :: dkB bd u D :: dkS u D :: F) := by
    rintro ⟨va, R3, good⟩ ⟨hR3, hva, hgood⟩
    try dsimp only
    dsimp only at hR3 hva hgood
    refine hK9 _ _ _ ?_
    refine cj_seq (fun K10 hK10 => ?_)
    refine cj_seq (fun K11 hK11 => ?_)
    refine cj_region ?_
    refine rv0 rfl rfl rfl (y_move rfl) ?_
    refine rv0 rfl rfl rfl (y_move rfl) ?_
    refine rv0 rfl rfl rfl (y_slen Tryz.underlying9 rfl) ?_
    refine rv0 rfl rfl rfl (y_lss rfl rfl) ?_
    refine rj_nil ?_
    refine hK11 _ _ _ ?_
    refine cj_env (eL 0 rfl (eL 4 rfl (eL 6 rfl (eL 7 rfl (eL 78 rfl eN))))) ?_
    refine cj_cond rfl (fun hc78 => ?_) (fun hc78 => ?_)
    ·have f5 : ¬ tail = [] := by rintro rfl; (try simp at hc78); simp at hgood; omega
     have f6 : B.take good = recsB rs := by rw [hB, hb] at hgood ⊢; rw [List.length_append] at hgood; rw [List.take_append_of_le_length (by omega), List.take_of_length_le (by omega)]
     have f7 : D.open rs tail = D.swap (recsB rs) := by unfold DK.open; rw [if_neg (by simp [f0]), if_neg f5]
     have f8 : (recsB rs).length ≤ 900000000 := by rw [← f6, List.length_take]; omega
     refine cj_seq (fun K13 hK13 => ?_)
     refine cj_region ?_
     refine rv0 rfl rfl rfl (y_move rfl) ?_
     refine rv0 rfl rfl rfl (y_move rfl) ?_
     refine rv0 rfl rfl rfl (y_move rfl) ?_
     refine rv0 rfl rfl rfl ((Yld.to (u := .string (str (recsB rs))) (y_slice_s_hi Tryz.underlying9 rfl rfl (by omega)) (by rw [← f6]; rfl))) ?_
     refine rj_call (wn0 rfl) rfl Tryz.call58 rfl (swap_t bd u D m hD (recsB rs) (by omega)) (by (repeat (first|exact zN _|(apply zS;focus (repeat (first|exact zH _|apply zT)))))) (fun _ _ _ _ h => h.elim) ?_
     rintro x R6 L' hR6 ⟨rfl, rfl, u2, rfl⟩
     try simp only [List.cons_append, List.nil_append]
     refine rv0 rfl rfl rfl (y_assign rfl) ?_
     refine rj_nil ?_
     refine hK13 _ _ _ ?_
     refine cj_env (eL 6 rfl (eL 12 rfl eN)) ?_
     refine cj_seq (fun K14 hK14 => ?_)
     refine cj_region ?_
     refine rv0 rfl rfl rfl (y_move rfl) ?_
     refine rv0 rfl rfl rfl (y_neq rfl rfl) ?_
     refine rj_nil ?_
     refine hK14 _ _ _ ?_
     refine cj_cond rfl (fun hc85 => ?_) (fun hc85 => ?_)
     ·have f9 : ¬ (D.swap (recsB rs)).1 = 0 := by simpa using hc85
      refine cj_seq (fun K16 hK16 => ?_)
      refine cj_region ?_
      refine rv0 rfl rfl rfl (y_move rfl) ?_
      refine rv0 rfl rfl rfl (y_assign rfl) ?_
      refine rv0 rfl rfl rfl (y_assign rfl) ?_
      refine rj_nil ?_
      refine hK16 _ _ _ ?_
      refine cj_env (eL 2 rfl (eL 3 rfl eN)) ?_
      refine cj_ret ?_
      refine hret _ _ _ ?_
      apply ej_ret Tryz.results24 (.cons (rv_tmp rfl) (.cons (rv_tmp rfl) .nil)) _ [dkB bd u2 (D.swap (recsB rs)).2, dkS u2 (D.swap (recsB rs)).2] (by first | exact Hp.le_refl _ | exact hR3) rfl
      case hp => rw [f7]; exact ⟨_, u2, rfl, .inl ⟨rfl, f9, rfl⟩⟩
      case hS => (repeat (first|exact zR _|(apply zP;focus (repeat (first|exact zH _|apply zT)))|apply zD|exact zA _ _))
     ·have f9 : (D.swap (recsB rs)).1 = 0 := by simpa using hc85
      refine cj_skip ?_
      refine hK10 _ _ _ ?_
      refine cj_env (eL 6 rfl eN) ?_
      refine cj_seq (fun K17 hK17 => ?_)
      refine cj_region ?_
      refine rv0 rfl rfl rfl (y_move rfl) ?_
      refine rv0 rfl rfl rfl (y_assign rfl) ?_
      refine rv0 rfl rfl rfl (y_assign rfl) ?_
      refine rj_nil ?_
      refine hK17 _ _ _ ?_
      refine cj_ret ?_
      refine hret _ _ _ ?_
      apply ej_ret Tryz.results24 (.cons (rv_tmp rfl) (.cons (rv_tmp rfl) .nil)) _ [lgB bl (some ⟨bd, 0, none⟩) va h, dkB bd u2 (D.swap (recsB rs)).2, dkS u2 (D.swap (recsB rs)).2] (by first | exact Hp.le_refl _ | exact hR3) rfl
      case hp => rw [f7]; refine ⟨_, u2, by rw [f9], .inr ⟨bl, va, rfl, f9, hva, rfl⟩⟩
      case hS => (repeat (first|exact zR _|(apply zP;focus (repeat (first|exact zH _|apply zT)))|apply zD|exact zA _ _))
    ·have f5 : tail = [] := by (try simp at hc78); exact List.eq_nil_of_length_eq_zero (by omega)
     have f7 : D.open rs tail = (0, D) := by unfold DK.open; rw [if_neg (by simp [f0]), if_pos f5]
     refine cj_skip ?_
     refine hK10 _ _ _ ?_
     refine cj_env (eL 6 rfl eN) ?_
     refine cj_seq (fun K18 hK18 => ?_)
     refine cj_region ?_
     refine rv0 rfl rfl rfl (y_move rfl) ?_
     refine rv0 rfl rfl rfl (y_assign rfl) ?_
     refine rv0 rfl rfl rfl (y_assign rfl) ?_
     refine rj_nil ?_
     refine hK18 _ _ _ ?_
     refine cj_ret ?_
     refine hret _ _ _ ?_
     apply ej_ret Tryz.results24 (.cons (rv_tmp rfl) (.cons (rv_tmp rfl) .nil)) _ [lgB bl (some ⟨bd, 0, none⟩) va h, dkB bd u D, dkS u D] (by first | exact Hp.le_refl _ | exact hR3) rfl
     case hp => rw [f7]; exact ⟨_, u, rfl, .inr ⟨bl, va, rfl, rfl, hva, rfl⟩⟩
     case hS => (repeat (first|exact zR _|(apply zP;focus (repeat (first|exact zH _|apply zT)))|apply zD|exact zA _ _))
   refine cj_seq (fun K19 hK19 => ?_)
   refine cj_region ?_
   refine rv0 rfl rfl rfl (y_move rfl) ?_
   refine rv0 rfl rfl rfl (y_assign rfl) ?_
   refine rj_nil ?_
   refine hK19 _ _ _ ?_
   refine cj_block ?_
   refine cj_env (E' := (fun (x1 : LG × List Rec × Value × Hp × Bs × Nat) => [(0, .pointer (some ⟨bd, 0, none⟩)), (4, .string (str B)), (6, .pointer (some ⟨bl, 0, none⟩)), (7, .int .i64 (x1.2.2.2.2.2 : Int)), (8, .string (str x1.2.2.2.2.1))]) (LG.new, rs, .slice none 0 0, R, B, 0)) (eC rfl (eC rfl (eC rfl (eC rfl (eC rfl eN))))) ?_
   refine cj_sub (M := (fun (x1 : LG × List Rec × Value × Hp × Bs × Nat) => lgB bl (some ⟨bd, 0, none⟩) x1.2.2.1 x1.1 :: dkB bd u D :: dkS u D :: F) (LG.new, rs, .slice none 0 0, R, B, 0)) (by (repeat (first|exact zR _|(apply zP;focus (repeat (first|exact zH _|apply zT)))|apply zD|exact zA _ _))) ?_
   refine cj_loop (fun (x1 : LG × List Rec × Value × Hp × Bs × Nat) => [(0, .pointer (some ⟨bd, 0, none⟩)), (4, .string (str B)), (6, .pointer (some ⟨bl, 0, none⟩)), (7, .int .i64 (x1.2.2.2.2.2 : Int)), (8, .string (str x1.2.2.2.2.1))]) (fun (x1 : LG × List Rec × Value × Hp × Bs × Nat) => x1.2.2.2.1) (fun (x1 : LG × List Rec × Value × Hp × Bs × Nat) => lgB bl (some ⟨bd, 0, none⟩) x1.2.2.1 x1.1 :: dkB bd u D :: dkS u D :: F) (fun (x1 : LG × List Rec × Value × Hp × Bs × Nat) => Plays x1.1 x1.2.1 h ∧ x1.2.2.2.2.1 = recsB x1.2.1 ++ tail ∧ FrX entE x1.2.2.2.1 x1.1.all x1.2.2.1 ∧ R.le x1.2.2.2.1 ∧ x1.2.2.2.2.2 + x1.2.2.2.2.1.length = B.length) (fun (x1 : LG × List Rec × Value × Hp × Bs × Nat) => x1.2.2.2.2.1.length) (LG.new, rs, .slice none 0 0, R, B, 0) (⟨hp, by rw [hB]; exact hb, FrX.nil, Hp.le_refl _, by simp⟩) ?_
   rintro ⟨g, rs2, va, R3, rest, good⟩ ⟨hpl, hrest, hva, hR3, hgood⟩
   try dsimp only
   dsimp only at hpl hrest hva hR3 hgood
   refine cj_seq (fun K20 hK20 => ?_)
   refine cj_seq (fun K21 hK21 => ?_)
   refine cj_region ?_
   refine rv0 rfl rfl rfl (y_move rfl) ?_
   refine rv0 rfl rfl rfl (y_slen Tryz.underlying9 rfl) ?_
   refine rv0 rfl rfl rfl (y_geq rfl rfl) ?_
   refine rj_nil ?_
   refine hK21 _ _ _ ?_
   refine cj_cond rfl (fun hc27 => ?_) (fun hc27 => ?_)
   ·try simp only [dT, dF, nT, nF, tF, fT] at hc27
    refine cj_skip ?_
    refine hK20 _ _ _ ?_
    refine cj_env (eL 0 rfl (eL 4 rfl (eL 6 rfl (eL 7 rfl (eL 8 rfl eN))))) ?_
    refine cj_block ?_
    refine cj_seq (fun K23 hK23 => ?_)
    refine cj_draw (by kernel_rfl) (by kernel_rfl) ?_
    have hrl : 4 ≤ rest.length := by (try simp at hc27); omega
    refine qj_val (wn0 rfl) rfl rfl (y_move rfl) ?_
    refine qj_val (wn0 rfl) rfl rfl ((y_index_s Tryz.underlying9 rfl rfl (by constructor; decide; omega))) ?_
    refine qj_val (wn0 rfl) rfl rfl ((y_conv_in Tryz.underlying5 Tryz.underlying3 rfl (by have := byteAt_bd rest 0; (simp only [IntKind.min, IntKind.max, IntKind.signed, IntKind.bits, Bool.false_eq_true, ite_false, ite_true]; omega)))) ?_
    refine qj_val (wn0 rfl) rfl rfl ((y_shl rfl rfl (by decide))) ?_
    refine qj_val (wn0 rfl) rfl rfl (y_move rfl) ?_
    refine qj_val (wn0 rfl) rfl rfl ((y_index_s Tryz.underlying9 rfl rfl (by constructor; decide; omega))) ?_
    refine qj_val (wn0 rfl) rfl rfl ((y_conv_in Tryz.underlying5 Tryz.underlying3 rfl (by have := byteAt_bd rest 1; (simp only [IntKind.min, IntKind.max, IntKind.signed, IntKind.bits, Bool.false_eq_true, ite_false, ite_true]; omega)))) ?_
    refine qj_val (wn0 rfl) rfl rfl ((y_shl rfl rfl (by decide))) ?_
    refine qj_val (wn0 rfl) rfl rfl (y_or rfl rfl) ?_
    refine qj_val (wn0 rfl) rfl rfl (y_move rfl) ?_
    refine qj_val (wn0 rfl) rfl rfl ((y_index_s Tryz.underlying9 rfl rfl (by constructor; decide; omega))) ?_
    refine qj_val (wn0 rfl) rfl rfl ((y_conv_in Tryz.underlying5 Tryz.underlying3 rfl (by have := byteAt_bd rest 2; (simp only [IntKind.min, IntKind.max, IntKind.signed, IntKind.bits, Bool.false_eq_true, ite_false, ite_true]; omega)))) ?_
    refine qj_val (wn0 rfl) rfl rfl ((y_shl rfl rfl (by decide))) ?_
    refine qj_val (wn0 rfl) rfl rfl (y_or rfl rfl) ?_
    refine qj_val (wn0 rfl) rfl rfl (y_move rfl) ?_
    refine qj_val (wn0 rfl) rfl rfl ((y_index_s Tryz.underlying9 rfl rfl (by constructor; decide; omega))) ?_
    refine qj_val (wn0 rfl) rfl rfl ((y_conv_in Tryz.underlying5 Tryz.underlying3 rfl (by have := byteAt_bd rest 3; (simp only [IntKind.min, IntKind.max, IntKind.signed, IntKind.bits, Bool.false_eq_true, ite_false, ite_true]; omega)))) ?_
    refine qj_val (wn0 rfl) rfl rfl ((Yld.to (y_or rfl rfl) (u := .int .i64 ((be4N rest : Nat) : Int)) (by rw [be4_or]))) ?_
    refine qj_val (wn0 rfl) rfl rfl (y_assign rfl) ?_
    refine qj_nil ?_
    refine hK23 _ _ _ ?_
    refine cj_env (eL 0 rfl (eL 4 rfl (eL 6 rfl (eL 7 rfl (eL 8 rfl (eL 9 rfl eN)))))) ?_
    refine cj_seq (fun K24 hK24 => ?_)
    refine cj_seq (fun K25 hK25 => ?_)
    refine cj_region ?_
    refine rv0 rfl rfl rfl (y_move rfl) ?_
    refine rv0 rfl rfl rfl (y_move rfl) ?_
    refine rv0 rfl rfl rfl (y_slen Tryz.underlying9 rfl) ?_
    first | refine rv0 rfl rfl rfl (y_sub64 rfl rfl (by (first | omega | (dsimp only; omega) | (simp; done) | (simp; omega)))) ?_ | refine rv0 rfl rfl rfl (y_sub rfl rfl) ?_
    refine rv0 rfl rfl rfl (y_gtr rfl rfl) ?_
    refine rj_nil ?_
    refine hK25 _ _ _ ?_
    refine cj_env (eL 0 rfl (eL 4 rfl (eL 6 rfl (eL 7 rfl (eL 8 rfl (eL 9 rfl (eL 50 rfl eN))))))) ?_
    refine cj_cond rfl (fun hc50 => ?_) (fun hc50 => ?_)
    ·obtain rfl : rs2 = [] := rest_nil hpl hrest (.inr (by (try simp at hc50); omega))
     obtain rfl := plays_nil hpl
     have hfin : R.le R3 ∧ FrX entE R3 g.all va ∧ good + tail.length = B.length := ⟨hR3, hva, by rw [hrest] at hgood; simpa [recsB] using hgood⟩
     refine cj_exit ?_
     refine ej_join hJ15 ((va, R3, good)) (hfin) (eC rfl (eC rfl (eC rfl (eC rfl eN)))) rfl (by (repeat (first|exact zR _|(apply zP;focus (repeat (first|exact zH _|apply zT)))|apply zD|exact zA _ _)))
    ·have hn : be4N rest ≤ rest.length - 4 := by (try simp at hc50); omega
     obtain ⟨r, rs3, rfl, h1, h2, h3, h4⟩ := rest_cons hpl hrest ht hrl hn
     have e1 : rest = be4 (wr r.nd).length ++ (wr r.nd ++ (recsB rs3 ++ tail)) := by rw [hrest, recsB_cons, Rec.bytes]; simp
     have e2 : be4N rest = (wr r.nd).length := by rw [e1, be4_N (by omega)]
     have e4 : (rest.drop 4).take (wr r.nd).length = wr r.nd := by rw [e1]; simp [be4]
     have hdrop : rest.drop (4 + (wr r.nd).length) = recsB rs3 ++ tail := by rw [← List.drop_drop, e1]; simp [be4]
     rw [e2]
     refine cj_skip ?_
     refine hK24 _ _ _ ?_
     refine cj_seq (fun K27 hK27 => ?_)
     refine cj_region ?_
     refine rv0 rfl rfl rfl (y_move rfl) ?_
     refine rv0 rfl rfl rfl (y_move rfl) ?_
     refine rv0 rfl rfl rfl ((y_add64 rfl rfl (by omega))) ?_
     refine rv0 rfl rfl rfl ((Yld.to (u := .string (str (wr r.nd))) (y_slice_s Tryz.underlying9 rfl rfl rfl (by omega)) (by congr 2; refine Eq.trans ?_ e4; congr 1; omega))) ?_
     refine rj_call (wn0 rfl) rfl Tryz.call56 rfl (read_t (wr r.nd) (by unfold big; omega)) (by (repeat (first|exact zN _|(apply zS;focus (repeat (first|exact zH _|apply zT)))))) (fun _ _ _ _ h => h.elim) ?_
     rintro x R4 L' hR4 ⟨cy, rfl, hrep, rfl⟩
     rw [Rec.read h2 h1 h3] at hrep ⊢
     obtain ⟨k0, n0, s0, l0, q0, cap0, _, rfl, _, _⟩ := hrep.inv
     replace hrep : RepN R4 r.nd _ := hrep
     try simp only [List.cons_append, List.nil_append]
     refine rv0 rfl rfl rfl (y_move rfl) ?_
     refine rv0 rfl rfl rfl (y_extract rfl rfl) ?_
     refine rv0 rfl rfl rfl (y_extract rfl rfl) ?_
     refine rj_alloc (wn0 rfl) rfl Tryz.zeroValue106 rfl (fun b10 => ?_)
     refine rj_stores_all (vs := [.int .i64 k0, .int .u64 ((n0 : Nat) : Int), .string (str s0), .slice q0 l0.length cap0]) ⟨Tryz.isAgg106, Tryz.sizeOf106⟩ rfl (wn0 rfl) rfl rfl (rep_one hrep) (by (repeat (first|exact zH _|apply zT));done) rfl ?_
     refine rv0 rfl rfl rfl (y_assign rfl) ?_
     refine rj_nil ?_
     refine hK27 _ _ _ ?_
     refine cj_env (eL 0 rfl (eL 4 rfl (eL 6 rfl (eL 7 rfl (eL 8 rfl (eL 9 rfl (eL 10 rfl (eL 11 rfl eN)))))))) ?_
     refine cj_seq (fun K28 hK28 => ?_)
     refine cj_seq (fun K29 hK29 => ?_)
     refine cj_region ?_
     refine rv0 rfl rfl rfl (y_move rfl) ?_
     refine rv0 rfl rfl rfl (y_not rfl) ?_
     refine rv0 rfl rfl rfl (y_move rfl) ?_
     refine rj_val (wn1 rfl rfl rfl rfl) rfl rfl (y_move rfl) ?_
     first | refine rj_val (wn1 rfl rfl rfl rfl) rfl rfl (y_loads_blk ⟨Tryz.isAgg106, Tryz.sizeOf106⟩ rfl (by (repeat (first|exact zH _|apply zT));done) rfl rfl) ?_ | refine rj_val (wn1 rfl rfl rfl rfl) rfl rfl (y_loads_slc ⟨Tryz.isAgg106, Tryz.sizeOf106⟩ rfl (by (repeat (first|exact zH _|apply zT));done) rfl rfl (by (first | omega | (dsimp only; omega) | (simp; done) | (simp; omega)))) ?_
     refine rj_call (wn1 rfl rfl rfl rfl) rfl Tryz.call57 rfl (replay_t bl (some ⟨bd, 0, none⟩) va g r h1 h2 (hva.mono hR4) _ hrep) (by (repeat (first|exact zN _|(apply zS;focus (repeat (first|exact zH _|apply zT)))))) (fun _ _ _ _ h => h.elim) ?_
     rintro x R5 L' hR5 ⟨rfl, va4, hva4, rfl⟩
     try simp only [List.cons_append, List.nil_append]
     refine rj_val (wn1 rfl rfl rfl rfl) rfl rfl (y_not rfl) ?_
     refine rv0 rfl rfl rfl (y_pick_f rfl rfl) ?_
     refine rj_nil ?_
     refine hK29 _ _ _ ?_
     refine cj_env (eL 0 rfl (eL 4 rfl (eL 6 rfl (eL 7 rfl (eL 8 rfl (eL 9 rfl (eL 66 rfl eN))))))) ?_
     refine cj_cond_f rfl ?_
     refine cj_skip ?_
     refine hK28 _ _ _ ?_
     refine cj_seq (fun K30 hK30 => ?_)
     refine cj_region ?_
     refine rv0 rfl rfl rfl (y_move rfl) ?_
     refine rv0 rfl rfl rfl (y_move rfl) ?_
     first | refine rv0 rfl rfl rfl (y_add64 rfl rfl (by (first | omega | (dsimp only; omega) | (simp; done) | (simp; omega)))) ?_ | refine rv0 rfl rfl rfl (y_add rfl rfl) ?_
     refine rv0 rfl rfl rfl ((Yld.to (u := .string (str (rest.drop (4 + (wr r.nd).length)))) (y_slice_s_lo Tryz.underlying9 rfl rfl (by omega)) (by congr 2))) ?_
     refine rv0 rfl rfl rfl (y_assign rfl) ?_
     refine rj_nil ?_
     refine hK30 _ _ _ ?_
     refine cj_env (eL 0 rfl (eL 4 rfl (eL 6 rfl (eL 7 rfl (eL 8 rfl (eL 9 rfl eN)))))) ?_
     refine cj_region ?_
     refine rv0 rfl rfl rfl (y_move rfl) ?_
     refine rv0 rfl rfl rfl (y_move rfl) ?_
     first | refine rv0 rfl rfl rfl (y_add64 rfl rfl (by (first | omega | (dsimp only; omega) | (simp; done) | (simp; omega)))) ?_ | refine rv0 rfl rfl rfl (y_add rfl rfl) ?_
     first | refine rv0 rfl rfl rfl (y_add64 rfl rfl (by (first | omega | (dsimp only; omega) | (simp; done) | (simp; omega)))) ?_ | refine rv0 rfl rfl rfl (y_add rfl rfl) ?_
     refine rv0 rfl rfl rfl (y_assign rfl) ?_
     refine rj_nil ?_
     refine ej_on (q' := roundK _ _ _ _ _ _ _) rfl ?_
     refine ej_round ((g.play r, rs3, va4, R5, rest.drop (4 + (wr r.nd).length), good + (4 + (wr r.nd).length))) (⟨h4, hdrop, hva4, Hp.le_trans hR3 (Hp.le_trans hR4 hR5), by dsimp only; rw [List.length_drop]; omega⟩) (by dsimp only; rw [List.length_drop]; omega) (eC rfl (eC rfl (eC rfl (eC rfl (eC rfl eN))))) rfl (by (repeat (first|exact zR _|(apply zP;focus (repeat (first|exact zH _|apply zT)))|apply zD|exact zA _ _)))
   ·obtain rfl : rs2 = [] := rest_nil hpl hrest (.inl (by (try simp at hc27); omega))
    obtain rfl := plays_nil hpl
    have hfin : R.le R3 ∧ FrX entE R3 g.all va ∧ good + tail.length = B.length := ⟨hR3, hva, by rw [hrest] at hgood; simpa [recsB] using hgood⟩
    refine cj_exit ?_
    refine ej_join hJ15 ((va, R3, good)) (hfin) (eC rfl (eC rfl (eC rfl (eC rfl eN)))) rfl (by (repeat (first|exact zR _|(apply zP;focus (repeat (first|exact zH _|apply zT)))|apply zD|exact zA _ _)))
end V
end Go.Proofs.YtjdbigplednihaaGreat
set_option linter.unusedSimpArgs false
set_option linter.unusedVariables false
set_option maxRecDepth 100000
namespace Go.Proofs.YtjdbigplednihaaGreat
open Go.RowKit
namespace V
set_option maxHeartbeats 4000000
def rlC (v : Value) (g : LG) : List Value := [.int .u64 g.term, .int .i64 g.vote, .int .u64 g.base, .int .u64 g.baseT, .string (str g.state), v]
theorem rlNew_q {R : Hp} : QTri Tryz.prog 31 [] R [] (.agg ⟨rlC (.slice none 0 0) LG.new⟩) := by
  refine Tri.q2 ?_
  refine tri_of Tryz.func31 rfl Tryz.ntmps31 rfl (fun σ F Q hret hend hpan => ?_)
  try simp only [List.cons_append, List.nil_append]
  refine cj_env eN ?_
  refine cj_seq (fun K1 hK1 => ?_)
  refine cj_region ?_
  refine rj_alloc (wn0 rfl) rfl Tryz.zeroValue34 rfl (fun b0 => ?_)
  refine rj_nil ?_
  refine hK1 _ _ _ ?_
  refine cj_seq (fun K2 hK2 => ?_)
  refine cj_region ?_
  refine rv0 rfl rfl rfl (y_build (cells := [_, _, _, _, _, _]) [(0, 1), (1, 1), (2, 1), (3, 1), (4, 1), (5, 1)] Tryz.underlying34 Tryz.zeroValue34 (fun _ => rfl) rfl rfl) ?_
  refine rj_stores ⟨Tryz.isAgg34, Tryz.sizeOf34⟩ rfl (wn0 rfl) rfl rfl (by (first | (simp [Value.oneCell']; done) | (intro u hu; simp only [List.mem_cons, List.not_mem_nil, or_false] at hu; rcases hu with rfl | rfl | rfl | rfl <;> first | rfl | assumption))) (by (repeat (first|exact zH _|apply zT));done) (by (simp)) rfl ?_
  refine rj_nil ?_
  refine hK2 _ _ _ ?_
  refine cj_ret ?_
  refine hret _ _ _ ?_
  apply ej_ret Tryz.results31 (.cons (rv_cells ⟨Tryz.isAgg34, Tryz.sizeOf34⟩ rfl (by (repeat (first|exact zH _|apply zT));done) rfl rfl) .nil) _ [] (by (first | exact Hp.le_refl _ | assumption | exact Hp.le_trans ‹_› ‹_›)) rfl
  case hp => exact ⟨rfl, rfl⟩
  case hS => (repeat (first|exact zR _|(apply zP;focus (repeat (first|exact zH _|apply zT)))|apply zD|exact zA _ _))
theorem LG.at_i (g : LG) {i : Nat} {e : Ent} (h : g.all[i]? = some e) : g.at (g.base + 1 + i) = some e := by
  have hi : i < g.all.length := (List.getElem?_eq_some_iff.1 h).1
  unfold LG.at LG.last
  rw [if_pos (by omega), show (g.base + 1 + (i : Int) - g.base - 1).toNat = i by omega, h]
end V
end Go.Proofs.YtjdbigplednihaaGreat
set_option linter.unusedSimpArgs false
set_option linter.unusedVariables false
set_option maxRecDepth 100000
namespace Go.Proofs.YtjdbigplednihaaGreat
open Go.RowKit
namespace V
set_option maxHeartbeats 4000000
def LD (n : Nat) (g : LG) (D : DK) : Prop := D.down = false ∧ D.bound = false ∧ D.sure = D.b.length ∧ D.fuel = 0 ∧ g.down = false ∧ D.b.length ≤ n ∧ ∃ rs, D.b = recsB rs ∧ Plays LG.new rs g
theorem LD.new : LD 0 LG.new DK.new := ⟨rfl, rfl, rfl, rfl, rfl, Nat.le_refl _, [], rfl, .nil _ LG.new_ok⟩
theorem LD.okD {n : Nat} {g : LG} {D : DK} (h : LD n g D) : D.ok n := by
  obtain ⟨h1, h2, h3, h4, h5, h6, _⟩ := h
  exact ⟨by omega, h6, by omega, by omega, fun h => by rw [h2] at h; cases h⟩
theorem play_down (g : LG) (r : Rec) : (g.play r).down = g.down := by cases r <;> rfl
theorem LD.put {n : Nat} {g : LG} {D : DK} (h : LD n g D) {r : Rec} {k : Nat} (hm : r.may g) (hl : (wr r.nd).length ≤ k) (hk : k ≤ 16777216) (ho : (g.play r).ok) : (D.put r.bytes).1 = 0 ∧ LD (n + 4 + k) (g.play r) (D.put r.bytes).2 := by
  obtain ⟨h1, h2, h3, h4, h5, h6, rs, h7, h8⟩ := h
  have e1 : D.step = (true, D) := by unfold DK.step; simp [h1, h2]
  have e2 : D.append r.bytes = (0, { D with b := D.b ++ r.bytes }) := by unfold DK.append; rw [e1]; rfl
  have e3 : D.put r.bytes = (0, { D with b := D.b ++ r.bytes, sure := (D.b ++ r.bytes).length }) := by
    unfold DK.put
    rw [e2]
    simp only [ite_true]
    unfold DK.sync
    have : DK.step { D with b := D.b ++ r.bytes } = (true, { D with b := D.b ++ r.bytes }) := by unfold DK.step; simp [h1, h2]
    rw [this]; rfl
  rw [e3]
  refine ⟨rfl, h1, h2, rfl, h4, by rw [play_down]; exact h5, ?_, rs ++ [r], by rw [recsB_snoc, ← h7], h8.snoc hm (by omega) ho⟩
  show (D.b ++ r.bytes).length ≤ _
  rw [List.length_append, Rec.bytes, List.length_append, be4_len]; omega
theorem openOK_t {R : Hp} (bd : Nat) (u : Value) (D : DK) (n : Nat) (g : LG) (h : LD n g D) (hn : n ≤ 900000000) :
    Tri Tryz.prog 24 [.pointer (some ⟨bd, 0, none⟩)] R [dkB bd u D, dkS u D] (fun x R' L' => ∃ b va u', x = tupOf [.pointer (some ⟨b, 0, none⟩), .int .i64 0] ∧ FrX entE R' g.all va ∧ L' = [lgB b (some ⟨bd, 0, none⟩) va g, dkB bd u' D, dkS u' D]) := by
  have hD := h.okD
  obtain ⟨h1, h2, h3, h4, h5, h6, rs, h7, h8⟩ := h
  have ho : D.open rs [] = (0, D) := by unfold DK.open; rw [if_neg (by rw [h1]; decide), if_pos rfl]
  have := open_t (R := R) bd u D n rs [] g hD hn (by rw [List.append_nil]; exact h7) torn_nil h8
  rw [ho] at this
  refine Tri.mono this (fun x R' L' hR hx => ?_) (fun _ _ _ _ h => h)
  obtain ⟨p, u', rfl, ⟨_, hne, _⟩ | ⟨b, va, rfl, _, hva, rfl⟩⟩ := hx
  · exact absurd rfl hne
  · exact ⟨b, va, u', rfl, hva, rfl⟩
end V
end Go.Proofs.YtjdbigplednihaaGreat
set_option linter.unusedSimpArgs false
set_option linter.unusedVariables false
set_option maxRecDepth 100000
namespace Go.Proofs.YtjdbigplednihaaGreat
open Go.RowKit
namespace V
set_option maxHeartbeats 4000000
def LG.comp (g : LG) (i : Int) (s : Bs) : LG := { g with baseT := (g.termAt i).getD 0, all := g.all.drop (i - g.base).toNat, base := i, state := s }
def LG.base0 (g : LG) (i t : Int) (s : Bs) : LG := { g with all := [], base := i, baseT := t, state := s }
def LG.swapD (g : LG) (D : DK) (to : LG) : Int × LG × DK :=
  if (D.swap (Rec.all to).bytes).1 = 0 then (0, to, (D.swap (Rec.all to).bytes).2) else ((D.swap (Rec.all to).bytes).1, { g with down := true }, (D.swap (Rec.all to).bytes).2)
def LG.compD (g : LG) (D : DK) (i : Int) (s : Bs) : Int × LG × DK :=
  if (g.down || D.down) = true then (3, g, D) else if i < g.base ∨ i > g.last then (1, g, D) else g.swapD D (g.comp i s)
def LG.instD (g : LG) (D : DK) (i t : Int) (s : Bs) : Int × LG × DK :=
  if (g.down || D.down) = true then (3, g, D) else if i < g.base ∨ (i = g.base ∧ ¬ t = g.baseT) then (1, g, D)
  else if g.termAt i = some t then g.compD D i s else g.swapD D (g.base0 i t s)
theorem kNil (R : Hp) : Kids R [] [] := ⟨rfl, fun i x cs h _ => by simp at h⟩
theorem kCons {R : Hp} {x : Nd} {c : List Value} {ks : List Nd} {css : List (List Value)} (h : RepN R x c) (k : Kids R ks css) : Kids R (x :: ks) (c :: css) := by
  refine ⟨by simp [k.1], fun i y cs h1 h2 => ?_⟩
  cases i with
  | zero => cases h1; cases h2; exact h
  | succ i => exact k.2 i y cs (by simpa using h1) (by simpa using h2)
theorem lgC_one {d : Option Addr} {v : Value} (g : LG) (hv : v.oneCell' = true) : ∀ u ∈ lgC d v g, u.oneCell' = true := by
  intro u hu
  simp only [lgC, List.mem_cons, List.not_mem_nil, or_false] at hu
  rcases hu with rfl | rfl | rfl | rfl | rfl | rfl | rfl | rfl <;> first | rfl | assumption
theorem lgSwap_t {R : Hp} (b bd : Nat) (va u vt : Value) (g to : LG) (D : DK) (n : Nat) (hva : va.oneCell' = true) (ht : to.ok) (hvt : FrX entE R to.all vt) (hl : (wr (Rec.all to).nd).length ≤ 16777216) (hD : D.ok n) :
    Tri Tryz.prog 100 [.pointer (some ⟨b, 0, none⟩), .agg ⟨lgC (some ⟨bd, 0, none⟩) vt to⟩] R [lgB b (some ⟨bd, 0, none⟩) va g, dkB bd u D, dkS u D]
      (fun x R' L' => x = .int .i64 (g.swapD D to).1 ∧ ∃ u', L' = [lgB b (some ⟨bd, 0, none⟩) (if (g.swapD D to).1 = 0 then vt else va) (g.swapD D to).2.1, dkB bd u' (g.swapD D to).2.2, dkS u' (g.swapD D to).2.2]) := by
  have hb := ht.base
  have hv := ht.vote
  have hst := ht.state
  have hu2 : u64B 2 := by unfold u64B; omega
  have hv1 : u64B (to.vote + 1) := by unfold u64B; omega
  have hbb : u64B to.base := by unfold u64B; omega
  have hmay : (Rec.all to).may g := ht
  have hok : OkN (Rec.all to).nd := .mk (by decide) (Rec.kids_ok (g := LG.new) (r := .all to) ht LG.new_ok)
  have hbl : (Rec.all to).bytes.length ≤ 16777220 := by unfold Rec.bytes; simp [be4_len]; omega
  have hvto := hvt.one
  obtain ⟨qt, ct, rfl, hq1, hq2⟩ := hvt.shape
  unfold lgB lgC
  refine tri_of Tryz.func100 rfl Tryz.ntmps100 rfl (fun σ F Q hret hend hpan => ?_)
  try simp only [List.cons_append, List.nil_append]
  refine cj_env (eL 0 rfl (eL 1 rfl eN)) ?_
  refine cj_seq (fun K1 hK1 => ?_)
  refine cj_region ?_
  refine rj_box (wn0 rfl) rfl rfl rfl (fun b3 => ?_)
  refine rv0 rfl rfl rfl (y_assign rfl) ?_
  refine rj_nil ?_
  refine hK1 _ _ _ ?_
  refine cj_seq (fun K2 hK2 => ?_)
  refine cj_mixt (L := [blk b3 [.pointer (some ⟨bd, 0, none⟩), .bool to.down, .int .u64 to.term, .int .i64 to.vote, .int .u64 to.base, .int .u64 to.baseT, .string (str to.state), .slice qt to.all.length ct] 87]) [0, 1, 2, 3, 4, 5, 6, 7, 8, 9, 10, 11, 12, 13, 14, 15, 16, 17, 18, 19] [] [20, 21, 22, 23, 24, 25, 26, 27] _ (by (repeat (first|exact zR _|(apply zP;focus (repeat (first|exact zH _|apply zT)))|apply zD|exact zA _ _))) (by kernel_rfl) (by kernel_rfl) ?_
  refine fj_val rfl rfl rfl (wn0 rfl) (fun R1 hR1 G => (y_call Tryz.call67 rfl (numN_q _) (by (repeat (first|exact zN _|(apply zS;focus (repeat (first|exact zH _|apply zT)))))))) ?_
  refine fj_val rfl rfl rfl (wn0 rfl) (fun R1 hR1 G => (y_fieldAddr (k := 2) Tryz.underlying87 rfl (n := 1) (by decide) Tryz.sizeOf31 rfl)) ?_
  first | refine fj_val rfl rfl rfl (wn0 rfl) (fun R1 hR1 G => (y_load ⟨Tryz.isAgg31, Tryz.sizeOf31⟩ rfl (by (repeat (first|exact zH _|apply zT));done) rfl)) ?_ | refine fj_val rfl rfl rfl (wn0 rfl) (fun R1 hR1 G => (y_load_slc ⟨Tryz.isAgg31, Tryz.sizeOf31⟩ rfl (by (repeat (first|exact zH _|apply zT));done) rfl)) ?_
  refine fj_val rfl rfl rfl (wn0 rfl) (fun R1 hR1 G => (y_call Tryz.call67 rfl (numN_q _) (by (repeat (first|exact zN _|(apply zS;focus (repeat (first|exact zH _|apply zT)))))))) ?_
  refine fj_val rfl rfl rfl (wn0 rfl) (fun R1 hR1 G => (y_fieldAddr (k := 3) Tryz.underlying87 rfl (n := 1) (by decide) Tryz.sizeOf3 rfl)) ?_
  first | refine fj_val rfl rfl rfl (wn0 rfl) (fun R1 hR1 G => (y_load ⟨Tryz.isAgg3, Tryz.sizeOf3⟩ rfl (by (repeat (first|exact zH _|apply zT));done) rfl)) ?_ | refine fj_val rfl rfl rfl (wn0 rfl) (fun R1 hR1 G => (y_load_slc ⟨Tryz.isAgg3, Tryz.sizeOf3⟩ rfl (by (repeat (first|exact zH _|apply zT));done) rfl)) ?_
  refine fj_val rfl rfl rfl (wn0 rfl) (fun R1 hR1 G => (y_add64 rfl rfl (by omega))) ?_
  refine fj_val rfl rfl rfl (wn0 rfl) (fun R1 hR1 G => (y_conv_in Tryz.underlying3 Tryz.underlying31 rfl (by (simp only [IntKind.min, IntKind.max, IntKind.signed, IntKind.bits, Bool.false_eq_true, ite_false, ite_true]; omega)))) ?_
  refine fj_val rfl rfl rfl (wn0 rfl) (fun R1 hR1 G => (y_call Tryz.call67 rfl (numN_q _) (by (repeat (first|exact zN _|(apply zS;focus (repeat (first|exact zH _|apply zT)))))))) ?_
  refine fj_val rfl rfl rfl (wn0 rfl) (fun R1 hR1 G => (y_fieldAddr (k := 4) Tryz.underlying87 rfl (n := 1) (by decide) Tryz.sizeOf31 rfl)) ?_
  first | refine fj_val rfl rfl rfl (wn0 rfl) (fun R1 hR1 G => (y_load ⟨Tryz.isAgg31, Tryz.sizeOf31⟩ rfl (by (repeat (first|exact zH _|apply zT));done) rfl)) ?_ | refine fj_val rfl rfl rfl (wn0 rfl) (fun R1 hR1 G => (y_load_slc ⟨Tryz.isAgg31, Tryz.sizeOf31⟩ rfl (by (repeat (first|exact zH _|apply zT));done) rfl)) ?_
  refine fj_val rfl rfl rfl (wn0 rfl) (fun R1 hR1 G => (y_call Tryz.call67 rfl (numN_q _) (by (repeat (first|exact zN _|(apply zS;focus (repeat (first|exact zH _|apply zT)))))))) ?_
  refine fj_val rfl rfl rfl (wn0 rfl) (fun R1 hR1 G => (y_fieldAddr (k := 5) Tryz.underlying87 rfl (n := 1) (by decide) Tryz.sizeOf31 rfl)) ?_
  first | refine fj_val rfl rfl rfl (wn0 rfl) (fun R1 hR1 G => (y_load ⟨Tryz.isAgg31, Tryz.sizeOf31⟩ rfl (by (repeat (first|exact zH _|apply zT));done) rfl)) ?_ | refine fj_val rfl rfl rfl (wn0 rfl) (fun R1 hR1 G => (y_load_slc ⟨Tryz.isAgg31, Tryz.sizeOf31⟩ rfl (by (repeat (first|exact zH _|apply zT));done) rfl)) ?_
  refine fj_val rfl rfl rfl (wn0 rfl) (fun R1 hR1 G => (y_call Tryz.call67 rfl (numN_q _) (by (repeat (first|exact zN _|(apply zS;focus (repeat (first|exact zH _|apply zT)))))))) ?_
  refine fj_val rfl rfl rfl (wn0 rfl) (fun R1 hR1 G => (y_fieldAddr (k := 6) Tryz.underlying87 rfl (n := 1) (by decide) Tryz.sizeOf9 rfl)) ?_
  first | refine fj_val rfl rfl rfl (wn0 rfl) (fun R1 hR1 G => (y_load ⟨Tryz.isAgg9, Tryz.sizeOf9⟩ rfl (by (repeat (first|exact zH _|apply zT));done) rfl)) ?_ | refine fj_val rfl rfl rfl (wn0 rfl) (fun R1 hR1 G => (y_load_slc ⟨Tryz.isAgg9, Tryz.sizeOf9⟩ rfl (by (repeat (first|exact zH _|apply zT));done) rfl)) ?_
  refine fj_val rfl rfl rfl (wn0 rfl) (fun R1 hR1 G => (y_call Tryz.call110 rfl (numS_q _) (by (repeat (first|exact zN _|(apply zS;focus (repeat (first|exact zH _|apply zT)))))))) ?_
  refine fj_val rfl rfl rfl (wn0 rfl) (fun R1 hR1 G => (y_fieldAddr (k := 7) Tryz.underlying87 rfl (n := 1) (by decide) Tryz.sizeOf32 rfl)) ?_
  first | refine fj_val rfl rfl rfl (wn0 rfl) (fun R1 hR1 G => (y_load ⟨Tryz.isAgg32, Tryz.sizeOf32⟩ rfl (by (repeat (first|exact zH _|apply zT));done) rfl)) ?_ | refine fj_val rfl rfl rfl (wn0 rfl) (fun R1 hR1 G => (y_load_slc ⟨Tryz.isAgg32, Tryz.sizeOf32⟩ rfl (by (repeat (first|exact zH _|apply zT));done) rfl)) ?_
  refine fj_nil ?_
  refine xj_nil ?_
  try simp only [List.cons_append, List.nil_append, List.append_nil]
  refine tj_all (rs := [20]) (by kernel_rfl) (by decide) ⟨⟨_, rfl, ?_⟩, trivial⟩
  refine rj_call (wn0 rfl) rfl Tryz.call107 rfl (list_t to.all _ hvt ht.all ht.alln) (by (repeat (first|exact zN _|(apply zS;focus (repeat (first|exact zH _|apply zT)))))) (fun _ _ _ _ h => h.elim) ?_
  rintro r R2 L' hR2 ⟨⟨cy, rfl, hrep⟩, rfl⟩
  have hrep2 := hrep
  obtain ⟨k0, n0, s0, l0, q0, cap0, _, rfl, _, _⟩ := hrep2.inv
  try simp only [List.cons_append, List.nil_append]
  refine rj_tj ?_
  refine tj_all (rs := [21]) (by kernel_rfl) (by decide) ⟨⟨_, rfl, ?_⟩, trivial⟩
  refine rj_buildSlice (sz := 4) (wn0 rfl) rfl Tryz.underlying104 Tryz.sizeOf106 Tryz.zeroValue106 rfl rfl rfl (by decide) (by decide) (fun bk => ?_)
  refine rj_tj ?_
  refine tj_all (rs := [22]) (by kernel_rfl) (by decide) ⟨⟨_, rfl, ?_⟩, trivial⟩
  refine rj_call (wn0 rfl) rfl Tryz.call97 rfl (record_t (.slice (some ⟨bk, 0, none⟩) 7 7) (Rec.all to).kids [[.int .i64 0, .int .u64 2, .string (str []), .slice none 0 0], [.int .i64 0, .int .u64 to.term, .string (str []), .slice none 0 0], [.int .i64 0, .int .u64 (to.vote + 1), .string (str []), .slice none 0 0], [.int .i64 0, .int .u64 to.base, .string (str []), .slice none 0 0], [.int .i64 0, .int .u64 to.baseT, .string (str []), .slice none 0 0], [.int .i64 1, .int .u64 0, .string (str to.state), .slice none 0 0], [.int .i64 k0, .int .u64 n0, .string (str s0), .slice q0 l0.length cap0]] (kCons (rep_num hu2) (kCons (rep_num ht.term) (kCons (rep_num hv1) (kCons (rep_num hbb) (kCons (rep_num ht.baseT) (kCons (rep_str (by unfold big; omega)) (kCons hrep (kNil _)))))))) (by simp [Rec.kids]) hok (Rec.write _ hl) hl) (by (repeat (first|exact zN _|(apply zS;focus (repeat (first|exact zH _|apply zT)))))) (fun _ _ _ _ h => h.elim) ?_
  rintro x R3 L' hR3 ⟨rfl, rfl⟩
  rw [show be4 (wr (Nd.mk 2 0 [] (Rec.all to).kids)).length ++ wr (Nd.mk 2 0 [] (Rec.all to).kids) = (Rec.all to).bytes from rfl]
  try simp only [List.cons_append, List.nil_append]
  refine rj_tj ?_
  refine tj_all (rs := [23]) (by kernel_rfl) (by decide) ⟨⟨_, rfl, ?_⟩, trivial⟩
  refine rv0 rfl rfl rfl (y_move rfl) ?_
  refine rj_tj ?_
  refine tj_take (i := 24) rfl rfl rfl (by kernel_rfl) (by kernel_rfl) (by kernel_rfl) (wn0 rfl) rfl (fun σ => (y_extract rfl rfl)) ?_
  refine tj_take (i := 25) rfl rfl rfl (by kernel_rfl) (by kernel_rfl) (by kernel_rfl) (wn0 rfl) rfl (fun σ => (y_extract rfl rfl)) ?_
  refine tj_all (rs := [26]) (by kernel_rfl) (by decide) ⟨⟨_, rfl, ?_⟩, trivial⟩
  refine rv0 rfl rfl rfl (y_assign rfl) ?_
  refine rj_tj ?_
  refine tj_all (rs := [27]) (by kernel_rfl) (by decide) ⟨⟨_, rfl, ?_⟩, trivial⟩
  refine rv0 rfl rfl rfl (y_assign rfl) ?_
  refine rj_tj ?_
  refine tj_done (by kernel_rfl) ?_
  refine hK2 _ _ _ ?_
  refine cj_env (eL 0 rfl (eL 3 rfl (eL 5 rfl (eL 6 rfl eN)))) ?_
  refine cj_seq (fun K3 hK3 => ?_)
  refine cj_seq (fun K4 hK4 => ?_)
  refine cj_region ?_
  refine rv0 rfl rfl rfl (y_move rfl) ?_
  refine rv0 rfl rfl rfl (y_not rfl) ?_
  refine rj_nil ?_
  refine hK4 _ _ _ ?_
  refine cj_cond_f rfl ?_
  refine cj_skip ?_
  refine hK3 _ _ _ ?_
  refine cj_env (eL 0 rfl (eL 3 rfl (eL 5 rfl eN))) ?_
  refine cj_seq (fun K5 hK5 => ?_)
  refine cj_seq (fun K6 hK6 => ?_)
  refine cj_region ?_
  refine rv0 rfl rfl rfl (y_move rfl) ?_
  refine rv0 rfl rfl rfl (y_nilCheck rfl) ?_
  refine rv0 rfl rfl rfl (y_fieldAddr (k := 0) Tryz.underlying87 rfl (n := 1) (by decide) Tryz.sizeOf29 rfl) ?_
  first | refine rv0 rfl rfl rfl (y_load ⟨Tryz.isAgg29, Tryz.sizeOf29⟩ rfl (by (repeat (first|exact zH _|apply zT));done) rfl) ?_ | refine rv0 rfl rfl rfl (y_load_slc ⟨Tryz.isAgg29, Tryz.sizeOf29⟩ rfl (by (repeat (first|exact zH _|apply zT));done) rfl) ?_
  refine rv0 rfl rfl rfl (y_move rfl) ?_
  refine rj_call (wn0 rfl) rfl Tryz.call58 rfl (swap_t bd u D n hD (Rec.all to).bytes (by omega)) (by (repeat (first|exact zN _|(apply zS;focus (repeat (first|exact zH _|apply zT)))))) (fun _ _ _ _ h => h.elim) ?_
  rintro x R4 L' hR4 ⟨rfl, rfl, u2, rfl⟩
  try simp only [List.cons_append, List.nil_append]
  refine rv0 rfl rfl rfl (y_assign rfl) ?_
  refine rj_nil ?_
  refine hK6 _ _ _ ?_
  refine cj_env (eL 0 rfl (eL 3 rfl (eL 7 rfl eN))) ?_
  refine cj_seq (fun K7 hK7 => ?_)
  refine cj_region ?_
  refine rv0 rfl rfl rfl (y_move rfl) ?_
  refine rv0 rfl rfl rfl (y_neq rfl rfl) ?_
  refine rj_nil ?_
  refine hK7 _ _ _ ?_
  refine cj_cond rfl (fun hc43 => ?_) (fun hc43 => ?_)
  ·have f2 : ¬ (D.swap (Rec.all to).bytes).1 = 0 := by simpa using hc43
   have f3 : g.swapD D to = ((D.swap (Rec.all to).bytes).1, { g with down := true }, (D.swap (Rec.all to).bytes).2) := by unfold LG.swapD; rw [if_neg f2]
   refine cj_seq (fun K9 hK9 => ?_)
   refine cj_region ?_
   refine rv0 rfl rfl rfl (y_move rfl) ?_
   refine rv0 rfl rfl rfl (y_nilCheck rfl) ?_
   refine rv0 rfl rfl rfl (y_fieldAddr (k := 1) Tryz.underlying87 rfl (n := 1) (by decide) Tryz.sizeOf4 rfl) ?_
   refine rj_store ⟨Tryz.isAgg4, Tryz.sizeOf4⟩ (wn0 rfl) rfl rfl (by (first | rfl | assumption | (apply cutV_one; assumption))) (by (repeat (first|exact zH _|apply zT));done) rfl rfl ?_
   refine rj_nil ?_
   refine hK9 _ _ _ ?_
   refine cj_env (eL 7 rfl eN) ?_
   refine cj_seq (fun K10 hK10 => ?_)
   refine cj_region ?_
   refine rv0 rfl rfl rfl (y_move rfl) ?_
   refine rv0 rfl rfl rfl (y_assign rfl) ?_
   refine rj_nil ?_
   refine hK10 _ _ _ ?_
   refine cj_ret ?_
   refine hret _ _ _ ?_
   apply ej_ret Tryz.results100 (.cons (rv_tmp rfl) .nil) _ [lgB b (some ⟨bd, 0, none⟩) va { g with down := true }, dkB bd u2 (D.swap (Rec.all to).bytes).2, dkS u2 (D.swap (Rec.all to).bytes).2] (by first | exact Hp.le_trans hR2 hR3 | exact hRz) rfl
   case hp => rw [f3]; exact ⟨rfl, u2, by rw [if_neg f2]; rfl⟩
   case hS => (repeat (first|exact zR _|(apply zP;focus (repeat (first|exact zH _|apply zT)))|apply zD|exact zA _ _))
  ·have f2 : (D.swap (Rec.all to).bytes).1 = 0 := by simpa using hc43
   have f3 : g.swapD D to = (0, to, (D.swap (Rec.all to).bytes).2) := by unfold LG.swapD; rw [if_pos f2]
   refine cj_skip ?_
   refine hK5 _ _ _ ?_
   refine cj_env (eL 0 rfl (eL 3 rfl eN)) ?_
   refine cj_seq (fun K11 hK11 => ?_)
   refine cj_region ?_
   refine rv0 rfl rfl rfl (y_move rfl) ?_
   refine rv0 rfl rfl rfl ((y_loads_all (vs := lgC (some ⟨bd, 0, none⟩) (.slice qt to.all.length ct) to) ⟨Tryz.isAgg87, Tryz.sizeOf87⟩ rfl rfl (by (repeat (first|exact zH _|apply zT));done))) ?_
   refine rv0 rfl rfl rfl (y_nilCheck rfl) ?_
   refine rj_stores_all (vs := lgC (some ⟨bd, 0, none⟩) (.slice qt to.all.length ct) to) ⟨Tryz.isAgg87, Tryz.sizeOf87⟩ rfl (wn0 rfl) rfl rfl (lgC_one to rfl) (by (repeat (first|exact zH _|apply zT));done) rfl ?_
   refine rj_nil ?_
   refine hK11 _ _ _ ?_
   refine cj_env eN ?_
   refine cj_seq (fun K12 hK12 => ?_)
   refine cj_region ?_
   refine rv0 rfl rfl rfl (y_assign rfl) ?_
   refine rj_nil ?_
   refine hK12 _ _ _ ?_
   refine cj_ret ?_
   refine hret _ _ _ ?_
   apply ej_ret Tryz.results100 (.cons (rv_tmp rfl) .nil) _ [lgB b (some ⟨bd, 0, none⟩) (.slice qt to.all.length ct) to, dkB bd u2 (D.swap (Rec.all to).bytes).2, dkS u2 (D.swap (Rec.all to).bytes).2] (by first | exact Hp.le_trans hR2 hR3 | exact hRz) rfl
   case hp => rw [f3]; exact ⟨rfl, u2, by rw [if_pos rfl]; rfl⟩
   case hS => (repeat (first|exact zR _|(apply zP;focus (repeat (first|exact zH _|apply zT)))|apply zD|exact zA _ _))
theorem numV_eq (o : Option Int) : numV o = tupOf [.int .u64 (o.getD 0), .bool o.isSome] := by cases o <;> rfl
theorem entsLen_app (l m : List Ent) : entsLen (l ++ m) = entsLen l + entsLen m := by simp [entsLen]
theorem entsLen_drop (l : List Ent) (k : Nat) : entsLen (l.drop k) ≤ entsLen l := by
  have := entsLen_app (l.take k) (l.drop k)
  rw [List.take_append_drop] at this; omega
theorem LG.at_mem {g : LG} {i : Int} {e : Ent} (h : g.at i = some e) : e ∈ g.all := by
  unfold LG.at at h
  split at h
  · exact List.mem_of_getElem? h
  · cases h
theorem LG.termAt_b {g : LG} (hg : g.ok) (i : Int) : u64B ((g.termAt i).getD 0) := by
  unfold LG.termAt
  split
  · exact hg.baseT
  · cases h : g.at i with
    | none => simp [u64B]
    | some e => exact (hg.all e (LG.at_mem h)).1
theorem LG.comp_ok {g : LG} (hg : g.ok) {i : Int} {s : Bs} (hi : g.base ≤ i ∧ i ≤ 1000000000000000) (hs : s.length ≤ 1000000) : (g.comp i s).ok :=
  ⟨hg.term, hg.vote, ⟨by have := hg.base; show 0 ≤ i; omega, hi.2⟩, LG.termAt_b hg i, hs, by show (g.all.drop _).length ≤ _; have := hg.alln; simp; omega, fun e he => hg.all e (List.mem_of_mem_drop he)⟩
theorem LG.base0_ok {g : LG} (hg : g.ok) {i t : Int} {s : Bs} (hi : 0 ≤ i ∧ i ≤ 1000000000000000) (ht : u64B t) (hs : s.length ≤ 1000000) : (g.base0 i t s).ok :=
  ⟨hg.term, hg.vote, hi, ht, hs, by show (0 : Nat) ≤ _; omega, fun e he => by cases he⟩
theorem swapD_fr {R : Hp} {g to : LG} {D : DK} {va vt : Value} (h1 : FrX entE R g.all va) (h2 : FrX entE R to.all vt) : FrX entE R (g.swapD D to).2.1.all (if (g.swapD D to).1 = 0 then vt else va) := by
  unfold LG.swapD
  by_cases h : (D.swap (Rec.all to).bytes).1 = 0
  · simp only [if_pos h, ite_true]; exact h2
  · simp only [if_neg h]; exact h1
theorem lgCompact_t {R : Hp} (b bd : Nat) (va u : Value) (g : LG) (D : DK) (n : Nat) (i : Int) (s : Bs) (hg : g.ok) (hi : u64B i) (hva : FrX entE R g.all va) (hs : s.length ≤ 1000000) (hE : entsLen g.all ≤ 15000000) (hL : g.last ≤ 1000000000000000) (hD : D.ok n) :
    Tri Tryz.prog 87 [.pointer (some ⟨b, 0, none⟩), .int .u64 i, .string (str s)] R [lgB b (some ⟨bd, 0, none⟩) va g, dkB bd u D, dkS u D]
      (fun x R' L' => x = .int .i64 (g.compD D i s).1 ∧ ∃ u' va', FrX entE R' (g.compD D i s).2.1.all va' ∧ L' = [lgB b (some ⟨bd, 0, none⟩) va' (g.compD D i s).2.1, dkB bd u' (g.compD D i s).2.2, dkS u' (g.compD D i s).2.2]) := by
  have hdq := lgDown_q (R := R) b bd va u g D
  have hlq := lgLast_q (R := R) b (some ⟨bd, 0, none⟩) va g hg hva
  have htq := lgTermAt_q (R := R) b (some ⟨bd, 0, none⟩) va g hg hva i hi
  have hva0 := hva
  have hb := hg.base
  have hn := hg.alln
  have hle : g.last = g.base + g.all.length := rfl
  obtain ⟨q, cap, rfl, hq1, hq2⟩ := hva.shape
  refine tri_of Tryz.func87 rfl Tryz.ntmps87 rfl (fun σ F Q hret hend hpan => ?_)
  try simp only [List.cons_append, List.nil_append]
  refine cj_env (eL 0 rfl (eL 1 rfl (eL 2 rfl eN))) ?_
  unfold lgB lgC at hdq hlq htq ⊢
  refine cj_seq (fun K1 hK1 => ?_)
  refine cj_region ?_
  refine rv0 rfl rfl rfl (y_assign rfl) ?_
  refine rj_nil ?_
  refine hK1 _ _ _ ?_
  refine cj_seq (fun K2 hK2 => ?_)
  refine cj_block ?_
  refine cj_seq (fun K3 hK3 => ?_)
  refine cj_region ?_
  refine rv0 rfl rfl rfl (y_move rfl) ?_
  refine rv0 rfl rfl rfl (y_call Tryz.call59 rfl (hdq) (by (repeat (first|exact zN _|(apply zS;focus (repeat (first|exact zH _|apply zT))))))) ?_
  refine rv0 rfl rfl rfl (y_assign rfl) ?_
  refine rj_nil ?_
  refine hK3 _ _ _ ?_
  refine cj_env (eL 0 rfl (eL 1 rfl (eL 2 rfl (eL 8 rfl eN)))) ?_
  refine cj_cond rfl (fun hc8 => ?_) (fun hc8 => ?_)
  ·have f0 : (g.down || D.down) = true := hc8
   refine cj_seq (fun K5 hK5 => ?_)
   refine cj_region ?_
   refine rv0 rfl rfl rfl (y_assign rfl) ?_
   refine rj_nil ?_
   refine hK5 _ _ _ ?_
   refine cj_env (eL 6 rfl eN) ?_
   refine cj_ret ?_
   refine hret _ _ _ ?_
   apply ej_ret Tryz.results87 (.cons (rv_tmp rfl) .nil) _ [lgB b (some ⟨bd, 0, none⟩) (.slice q g.all.length cap) g, dkB bd u D, dkS u D] (by first | exact Hp.le_refl _ | exact Hp.le_trans hR3 hR4) rfl
   case hp => rw [show g.compD D i s = (3, g, D) by unfold LG.compD; rw [if_pos f0]]; exact ⟨rfl, u, _, hva0, rfl⟩
   case hS => (repeat (first|exact zR _|(apply zP;focus (repeat (first|exact zH _|apply zT)))|apply zD|exact zA _ _))
  ·have f0 : ¬ (g.down || D.down) = true := by simpa using hc8
   obtain ⟨f01, f02⟩ : g.down = false ∧ D.down = false := by simpa using f0
   refine cj_seq (fun K6 hK6 => ?_)
   refine cj_region ?_
   refine rv0 rfl rfl rfl (y_move rfl) ?_
   refine rv0 rfl rfl rfl (y_move rfl) ?_
   refine rv0 rfl rfl rfl (y_nilCheck rfl) ?_
   refine rv0 rfl rfl rfl (y_fieldAddr (k := 4) Tryz.underlying87 rfl (n := 1) (by decide) Tryz.sizeOf31 rfl) ?_
   first | refine rv0 rfl rfl rfl (y_load ⟨Tryz.isAgg31, Tryz.sizeOf31⟩ rfl (by (repeat (first|exact zH _|apply zT));done) rfl) ?_ | refine rv0 rfl rfl rfl (y_load_slc ⟨Tryz.isAgg31, Tryz.sizeOf31⟩ rfl (by (repeat (first|exact zH _|apply zT));done) rfl) ?_
   refine rv0 rfl rfl rfl (y_lss rfl rfl) ?_
   refine rv0 rfl rfl rfl (y_move rfl) ?_
   refine rj_part 18 rfl (fun hg18 => ?_) (fun hg18 => ?_)
   ·have f1 : i < g.base ∨ i > g.last := .inl (by simpa using hg18)
    refine rj_skip (wn2 rfl rfl rfl rfl rfl) rfl rfl ?_
    refine rj_skip (wn2 rfl rfl rfl rfl rfl) rfl rfl ?_
    refine rj_skip (wn2 rfl rfl rfl rfl rfl) rfl rfl ?_
    refine rj_skip (wn2 rfl rfl rfl rfl rfl) rfl rfl ?_
    refine rv0 rfl rfl rfl (y_pick_t rfl rfl) ?_
    refine rv0 rfl rfl rfl (y_assign rfl) ?_
    refine rj_nil ?_
    refine hK6 _ _ _ ?_
    refine cj_env (eL 0 rfl (eL 1 rfl (eL 2 rfl (eL 11 rfl eN)))) ?_
    refine cj_cond_t rfl ?_
    refine cj_seq (fun K7 hK7 => ?_)
    refine cj_region ?_
    refine rv0 rfl rfl rfl (y_assign rfl) ?_
    refine rj_nil ?_
    refine hK7 _ _ _ ?_
    refine cj_env (eL 6 rfl eN) ?_
    refine cj_ret ?_
    refine hret _ _ _ ?_
    apply ej_ret Tryz.results87 (.cons (rv_tmp rfl) .nil) _ [lgB b (some ⟨bd, 0, none⟩) (.slice q g.all.length cap) g, dkB bd u D, dkS u D] (by first | exact Hp.le_refl _ | exact Hp.le_trans hR3 hR4) rfl
    case hp => rw [show g.compD D i s = (1, g, D) by unfold LG.compD; rw [if_neg f0, if_pos f1]]; exact ⟨rfl, u, _, hva0, rfl⟩
    case hS => (repeat (first|exact zR _|(apply zP;focus (repeat (first|exact zH _|apply zT)))|apply zD|exact zA _ _))
   ·have f10 : ¬ i < g.base := by simpa using hg18
    refine rj_val (wn1 rfl rfl rfl rfl) rfl rfl (y_move rfl) ?_
    refine rj_val (wn1 rfl rfl rfl rfl) rfl rfl (y_move rfl) ?_
    refine rj_val (wn1 rfl rfl rfl rfl) rfl rfl (y_call Tryz.call19 rfl (hlq) (by (repeat (first|exact zN _|(apply zS;focus (repeat (first|exact zH _|apply zT))))))) ?_
    refine rj_val (wn1 rfl rfl rfl rfl) rfl rfl (y_gtr rfl rfl) ?_
    refine rv0 rfl rfl rfl (y_pick_f rfl rfl) ?_
    refine rv0 rfl rfl rfl (y_assign rfl) ?_
    refine rj_nil ?_
    refine hK6 _ _ _ ?_
    refine cj_env (eL 0 rfl (eL 1 rfl (eL 2 rfl (eL 11 rfl eN)))) ?_
    refine cj_cond rfl (fun hc11 => ?_) (fun hc11 => ?_)
    ·first | have f1 : i < g.base ∨ i > g.last := .inr (by simpa using hc11) | skip
     refine cj_seq (fun K9 hK9 => ?_)
     refine cj_region ?_
     refine rv0 rfl rfl rfl (y_assign rfl) ?_
     refine rj_nil ?_
     refine hK9 _ _ _ ?_
     refine cj_env (eL 6 rfl eN) ?_
     refine cj_ret ?_
     refine hret _ _ _ ?_
     apply ej_ret Tryz.results87 (.cons (rv_tmp rfl) .nil) _ [lgB b (some ⟨bd, 0, none⟩) (.slice q g.all.length cap) g, dkB bd u D, dkS u D] (by first | exact Hp.le_refl _ | exact Hp.le_trans hR3 hR4) rfl
     case hp => rw [show g.compD D i s = (1, g, D) by unfold LG.compD; rw [if_neg f0, if_pos f1]]; exact ⟨rfl, u, _, hva0, rfl⟩
     case hS => (repeat (first|exact zR _|(apply zP;focus (repeat (first|exact zH _|apply zT)))|apply zD|exact zA _ _))
    ·have f1 : ¬ (i < g.base ∨ i > g.last) := by (try simp at hc11); omega
     refine cj_skip ?_
     refine hK2 _ _ _ ?_
     refine cj_seq (fun K10 hK10 => ?_)
     refine cj_region ?_
     obtain ⟨k, hk⟩ : ∃ k : Nat, i - g.base = k := ⟨(i - g.base).toNat, by omega⟩
     have hsub := hva0.sub (a := k) (b := g.all.length) (by omega) (by omega)
     have hkd : (g.all.drop k).take (g.all.length - k) = g.all.drop k := by rw [List.take_of_length_le (by simp)]
     rw [hkd] at hsub
     have hcD : g.compD D i s = g.swapD D (g.comp i s) := by unfold LG.compD; rw [if_neg f0, if_neg f1]
     have hcall : (g.comp i s).all = g.all.drop k := by unfold LG.comp; simp [hk]
     have hcok := LG.comp_ok hg (i := i) (s := s) ⟨by omega, by omega⟩ hs
     have hwl : (wr (Rec.all (g.comp i s)).nd).length ≤ 16777216 := by have h1 := Rec.len_all hcok; have h2 := entsLen_drop g.all k; rw [hcall] at h1; have h3 : (g.comp i s).state.length = s.length := rfl; omega
     refine rv0 rfl rfl rfl (y_move rfl) ?_
     refine rv0 rfl rfl rfl (y_nilCheck rfl) ?_
     refine rv0 rfl rfl rfl ((y_loads_all (vs := lgC (some ⟨bd, 0, none⟩) (.slice q g.all.length cap) g) ⟨Tryz.isAgg87, Tryz.sizeOf87⟩ rfl rfl (by (repeat (first|exact zH _|apply zT));done))) ?_
     refine rj_alloc (wn0 rfl) rfl Tryz.zeroValue87 rfl (fun b7 => ?_)
     refine rj_stores_all (vs := [.pointer (some ⟨bd, 0, none⟩), .bool g.down, .int .u64 g.term, .int .i64 g.vote, .int .u64 g.base, .int .u64 g.baseT, .string (str g.state), .slice q g.all.length cap]) ⟨Tryz.isAgg87, Tryz.sizeOf87⟩ rfl (wn0 rfl) rfl rfl (lgC_one g rfl) (by (repeat (first|exact zH _|apply zT));done) rfl ?_
     refine rj_nil ?_
     refine hK10 _ _ _ ?_
     refine cj_env (eL 0 rfl (eL 1 rfl (eL 2 rfl (eL 7 rfl eN)))) ?_
     refine cj_seq (fun K11 hK11 => ?_)
     refine cj_region ?_
     refine rv0 rfl rfl rfl (y_move rfl) ?_
     refine rv0 rfl rfl rfl (y_move rfl) ?_
     refine rv0 rfl rfl rfl (y_call Tryz.call96 rfl (htq) (by (repeat (first|exact zN _|(apply zS;focus (repeat (first|exact zH _|apply zT))))))) ?_
     refine rv0 rfl rfl rfl (y_move rfl) ?_
     refine rj_eq 27 rfl (v' := tupOf [.int .u64 ((g.termAt i).getD 0), .bool (g.termAt i).isSome]) (numV_eq _) ?_
     refine rv0 rfl rfl rfl (y_extract rfl rfl) ?_
     refine rv0 rfl rfl rfl (y_extract rfl rfl) ?_
     refine rv0 rfl rfl rfl (y_fieldAddr (k := 5) Tryz.underlying87 rfl (n := 1) (by decide) Tryz.sizeOf31 rfl) ?_
     refine rj_store ⟨Tryz.isAgg31, Tryz.sizeOf31⟩ (wn0 rfl) rfl rfl (by (first | rfl | assumption | (apply cutV_one; assumption))) (by (repeat (first|exact zH _|apply zT));done) rfl rfl ?_
     refine rj_nil ?_
     refine hK11 _ _ _ ?_
     refine cj_env (eL 0 rfl (eL 1 rfl (eL 2 rfl (eL 7 rfl eN)))) ?_
     refine cj_seq (fun K12 hK12 => ?_)
     refine cj_mixg (L := [blk b [.pointer (some ⟨bd, 0, none⟩), .bool g.down, .int .u64 g.term, .int .i64 g.vote, .int .u64 g.base, .int .u64 g.baseT, .string (str g.state), .slice q g.all.length cap] 87]) [0, 1, 2, 3, 4, 5, 6, 7, 8, 9, 10, 12, 13] [11, 14, 15, 16, 17] [18, 19] _ (by (repeat (first|exact zR _|(apply zP;focus (repeat (first|exact zH _|apply zT)))|apply zD|exact zA _ _))) (by kernel_rfl) (by kernel_rfl) (by kernel_rfl) rfl ?_
     refine fj_val rfl rfl rfl (wn0 rfl) (fun R1 hR1 G => (y_move rfl)) ?_
     refine fj_val rfl rfl rfl (wn0 rfl) (fun R1 hR1 G => (y_nilCheck rfl)) ?_
     refine fj_val rfl rfl rfl (wn0 rfl) (fun R1 hR1 G => (y_fieldAddr (k := 7) Tryz.underlying87 rfl (n := 1) (by decide) Tryz.sizeOf32 rfl)) ?_
     first | refine fj_val rfl rfl rfl (wn0 rfl) (fun R1 hR1 G => (y_load ⟨Tryz.isAgg32, Tryz.sizeOf32⟩ rfl (by (repeat (first|exact zH _|apply zT));done) rfl)) ?_ | refine fj_val rfl rfl rfl (wn0 rfl) (fun R1 hR1 G => (y_load_slc ⟨Tryz.isAgg32, Tryz.sizeOf32⟩ rfl (by (repeat (first|exact zH _|apply zT));done) rfl)) ?_
     refine fj_val rfl rfl rfl (wn0 rfl) (fun R1 hR1 G => (y_move rfl)) ?_
     refine fj_val rfl rfl rfl (wn0 rfl) (fun R1 hR1 G => (y_move rfl)) ?_
     refine fj_val rfl rfl rfl (wn0 rfl) (fun R1 hR1 G => (y_nilCheck rfl)) ?_
     refine fj_val rfl rfl rfl (wn0 rfl) (fun R1 hR1 G => (y_fieldAddr (k := 4) Tryz.underlying87 rfl (n := 1) (by decide) Tryz.sizeOf31 rfl)) ?_
     first | refine fj_val rfl rfl rfl (wn0 rfl) (fun R1 hR1 G => (y_load ⟨Tryz.isAgg31, Tryz.sizeOf31⟩ rfl (by (repeat (first|exact zH _|apply zT));done) rfl)) ?_ | refine fj_val rfl rfl rfl (wn0 rfl) (fun R1 hR1 G => (y_load_slc ⟨Tryz.isAgg31, Tryz.sizeOf31⟩ rfl (by (repeat (first|exact zH _|apply zT));done) rfl)) ?_
     refine fj_val rfl rfl rfl (wn0 rfl) (fun R1 hR1 G => (Yld.to (u := .int .u64 (k : Int)) (y_subu rfl rfl (by omega)) (by rw [hk]))) ?_
     refine fj_val rfl rfl rfl (wn0 rfl) (fun R1 hR1 G => (y_slice_sl (l := k) (h := g.all.length) Tryz.underlying32 Tryz.sizeOf60 rfl ⟨.u64, rfl⟩ rfl (by omega))) ?_
     refine fj_val rfl rfl rfl (wn0 rfl) (fun R1 hR1 G => (y_move rfl)) ?_
     refine fj_val rfl rfl rfl (wn0 rfl) (fun R1 hR1 G => (y_move rfl)) ?_
     refine fj_nil ?_
     refine xj_rj rfl ?_
     try simp only [List.cons_append, List.nil_append, List.append_nil]
     refine rj_call (wn0 rfl) rfl Tryz.call106 rfl (eclone_t (g.all.drop k) _ hsub (by simp; omega)) (by (repeat (first|exact zN _|(apply zS;focus (repeat (first|exact zH _|apply zT)))))) (fun _ _ _ _ h => h.elim) ?_
     rintro r R2 L' hR2 ⟨rfl, hro, rfl⟩
     try simp only [List.cons_append, List.nil_append]
     refine rj_xk (by (first | exact Hp.le_refl _ | assumption | exact Hp.le_trans ‹_› ‹_›)) (by (repeat (first|exact zR _|(apply zP;focus (repeat (first|exact zH _|apply zT)))|apply zD|exact zA _ _))) ?_
     refine xj_rj rfl ?_
     try simp only [List.cons_append, List.nil_append, List.append_nil]
     refine rv0 rfl rfl rfl (y_fieldAddr (k := 7) Tryz.underlying87 rfl (n := 1) (by decide) Tryz.sizeOf32 rfl) ?_
     refine rj_xk (by (first | exact Hp.le_refl _ | assumption | exact Hp.le_trans ‹_› ‹_›)) (by (repeat (first|exact zR _|(apply zP;focus (repeat (first|exact zH _|apply zT)))|apply zD|exact zA _ _))) ?_
     refine xj_rj rfl ?_
     try simp only [List.cons_append, List.nil_append, List.append_nil]
     refine rj_store ⟨Tryz.isAgg32, Tryz.sizeOf32⟩ (wn0 rfl) rfl rfl (by (first | rfl | assumption | (apply cutV_one; assumption))) (by (repeat (first|exact zH _|apply zT));done) rfl rfl ?_
     refine rj_xk (by (first | exact Hp.le_refl _ | assumption | exact Hp.le_trans ‹_› ‹_›)) (by (repeat (first|exact zR _|(apply zP;focus (repeat (first|exact zH _|apply zT)))|apply zD|exact zA _ _))) ?_
     refine xj_rj rfl ?_
     try simp only [List.cons_append, List.nil_append, List.append_nil]
     refine rv0 rfl rfl rfl (y_fieldAddr (k := 4) Tryz.underlying87 rfl (n := 1) (by decide) Tryz.sizeOf31 rfl) ?_
     refine rj_xk (by (first | exact Hp.le_refl _ | assumption | exact Hp.le_trans ‹_› ‹_›)) (by (repeat (first|exact zR _|(apply zP;focus (repeat (first|exact zH _|apply zT)))|apply zD|exact zA _ _))) ?_
     refine xj_rj rfl ?_
     try simp only [List.cons_append, List.nil_append, List.append_nil]
     refine rj_store ⟨Tryz.isAgg31, Tryz.sizeOf31⟩ (wn0 rfl) rfl rfl (by (first | rfl | assumption | (apply cutV_one; assumption))) (by (repeat (first|exact zH _|apply zT));done) rfl rfl ?_
     refine rj_xk (by (first | exact Hp.le_refl _ | assumption | exact Hp.le_trans ‹_› ‹_›)) (by (repeat (first|exact zR _|(apply zP;focus (repeat (first|exact zH _|apply zT)))|apply zD|exact zA _ _))) ?_
     refine xj_nil ?_
     try simp only [List.cons_append, List.nil_append, List.append_nil]
     refine rv0 rfl rfl rfl (y_fieldAddr (k := 6) Tryz.underlying87 rfl (n := 1) (by decide) Tryz.sizeOf9 rfl) ?_
     refine rj_store ⟨Tryz.isAgg9, Tryz.sizeOf9⟩ (wn0 rfl) rfl rfl (by (first | rfl | assumption | (apply cutV_one; assumption))) (by (repeat (first|exact zH _|apply zT));done) rfl rfl ?_
     refine rj_freeze (e := 60) (sz := 2) (n := (g.all.drop k).length) (v := r) (xs := entsC (g.all.drop k)) (by (repeat (first|exact zH _|apply zT));done) (fun R3 hR3 hfr hxl => ?_)
     have hfx := entsFr hfr
     obtain ⟨qf, cf, rfl, _, _⟩ := hfx.shape
     refine rj_nil ?_
     refine hK12 _ _ _ ?_
     refine cj_env (eL 0 rfl (eL 7 rfl eN)) ?_
     refine cj_seq (fun K13 hK13 => ?_)
     refine cj_region ?_
     refine rv0 rfl rfl rfl (y_move rfl) ?_
     refine rv0 rfl rfl rfl ((y_loads_all (vs := lgC (some ⟨bd, 0, none⟩) (.slice qf (g.all.drop k).length cf) (g.comp i s)) ⟨Tryz.isAgg87, Tryz.sizeOf87⟩ rfl rfl (by (repeat (first|exact zH _|apply zT));done))) ?_
     refine rj_call (wn0 rfl) rfl Tryz.call100 rfl (lgSwap_t b bd (.slice q g.all.length cap) u (.slice qf (g.all.drop k).length cf) g (g.comp i s) D n rfl hcok (by rw [hcall]; exact hfx) hwl hD) (by (repeat (first|exact zN _|(apply zS;focus (repeat (first|exact zH _|apply zT)))))) (fun _ _ _ _ h => h.elim) ?_
     rintro x R4 L' hR4 ⟨rfl, u2, rfl⟩
     unfold lgB lgC
     try simp only [List.cons_append, List.nil_append]
     refine rv0 rfl rfl rfl (y_assign rfl) ?_
     refine rj_nil ?_
     refine hK13 _ _ _ ?_
     refine cj_env (eL 6 rfl eN) ?_
     refine cj_ret ?_
     refine hret _ _ _ ?_
     apply ej_ret Tryz.results87 (.cons (rv_tmp rfl) .nil) _ [lgB b (some ⟨bd, 0, none⟩) (if (g.swapD D (g.comp i s)).1 = 0 then .slice qf (g.all.drop k).length cf else .slice q g.all.length cap) (g.swapD D (g.comp i s)).2.1, dkB bd u2 (g.swapD D (g.comp i s)).2.2, dkS u2 (g.swapD D (g.comp i s)).2.2] (by first | exact Hp.le_refl _ | exact Hp.le_trans hR3 hR4) rfl
     case hp => rw [hcD]; exact ⟨rfl, u2, _, swapD_fr (hva0.mono (Hp.le_trans hR3 hR4)) (by rw [hcall]; exact hfx.mono hR4), rfl⟩
     case hS => (repeat (first|exact zR _|(apply zP;focus (repeat (first|exact zH _|apply zT)))|apply zD|exact zA _ _))
theorem lgInstall_t {R : Hp} (b bd : Nat) (va u : Value) (g : LG) (D : DK) (n : Nat) (i t : Int) (s : Bs) (hg : g.ok) (hi : 0 ≤ i ∧ i ≤ 1000000000000000) (ht : u64B t) (hva : FrX entE R g.all va) (hs : s.length ≤ 1000000) (hE : entsLen g.all ≤ 15000000) (hL : g.last ≤ 1000000000000000) (hD : D.ok n) :
    Tri Tryz.prog 70 [.pointer (some ⟨b, 0, none⟩), .int .u64 i, .int .u64 t, .string (str s)] R [lgB b (some ⟨bd, 0, none⟩) va g, dkB bd u D, dkS u D]
      (fun x R' L' => x = .int .i64 (g.instD D i t s).1 ∧ ∃ u' va', FrX entE R' (g.instD D i t s).2.1.all va' ∧ L' = [lgB b (some ⟨bd, 0, none⟩) va' (g.instD D i t s).2.1, dkB bd u' (g.instD D i t s).2.2, dkS u' (g.instD D i t s).2.2]) := by
  have hiu : u64B i := by unfold u64B; omega
  have hdq := lgDown_q (R := R) b bd va u g D
  have htq := lgTermAt_q (R := R) b (some ⟨bd, 0, none⟩) va g hg hva i hiu
  have hct := lgCompact_t (R := R) b bd va u g D n i s hg hiu hva hs hE hL hD
  have hva0 := hva
  have hb := hg.base
  have hn := hg.alln
  have hle : g.last = g.base + g.all.length := rfl
  obtain ⟨q, cap, rfl, hq1, hq2⟩ := hva.shape
  have hbok := LG.base0_ok hg (i := i) (t := t) (s := s) hi ht hs
  have hwl : (wr (Rec.all (g.base0 i t s)).nd).length ≤ 16777216 := by have h1 := Rec.len_all hbok; have h2 : entsLen (g.base0 i t s).all = 0 := rfl; have h3 : (g.base0 i t s).state.length = s.length := rfl; omega
  refine tri_of Tryz.func70 rfl Tryz.ntmps70 rfl (fun σ F Q hret hend hpan => ?_)
  try simp only [List.cons_append, List.nil_append]
  refine cj_env (eL 0 rfl (eL 1 rfl (eL 2 rfl (eL 3 rfl eN)))) ?_
  unfold lgB lgC at hdq htq hct ⊢
  refine cj_seq (fun K1 hK1 => ?_)
  refine cj_region ?_
  refine rv0 rfl rfl rfl (y_assign rfl) ?_
  refine rj_nil ?_
  refine hK1 _ _ _ ?_
  refine cj_seq (fun K2 hK2 => ?_)
  have hJ5 : ∀ (x5 : Nat), ¬ (g.down || D.down) = true ∧ ¬ (i < g.base ∨ (i = g.base ∧ ¬ t = g.baseT)) → EJ ⟨Tryz.prog, 67, σ⟩ K2 [(0, .pointer (some ⟨b, 0, none⟩)), (1, .int .u64 i), (2, .int .u64 t), (3, .string (str s))] R (blk b [.pointer (some ⟨bd, 0, none⟩), .bool g.down, .int .u64 g.term, .int .i64 g.vote, .int .u64 g.base, .int .u64 g.baseT, .string (str g.state), .slice q g.all.length cap] 87 :: dkB bd u D :: dkS u D :: F) := by
   rintro x5 ⟨f0, f1⟩
   try dsimp only
   refine hK2 _ _ _ ?_
   refine cj_seq (fun K3 hK3 => ?_)
   have hJ8 : ∀ (x8 : Nat), ¬ g.termAt i = some t → EJ ⟨Tryz.prog, 67, σ⟩ K3 [(0, .pointer (some ⟨b, 0, none⟩)), (1, .int .u64 i), (2, .int .u64 t), (3, .string (str s))] R (blk b [.pointer (some ⟨bd, 0, none⟩), .bool g.down, .int .u64 g.term, .int .i64 g.vote, .int .u64 g.base, .int .u64 g.baseT, .string (str g.state), .slice q g.all.length cap] 87 :: dkB bd u D :: dkS u D :: F) := by
    rintro x8 h2
    try dsimp only
    refine hK3 _ _ _ ?_
    refine cj_seq (fun K4 hK4 => ?_)
    refine cj_region ?_
    refine rv0 rfl rfl rfl (y_move rfl) ?_
    refine rv0 rfl rfl rfl (y_nilCheck rfl) ?_
    refine rv0 rfl rfl rfl ((y_loads_all (vs := lgC (some ⟨bd, 0, none⟩) (.slice q g.all.length cap) g) ⟨Tryz.isAgg87, Tryz.sizeOf87⟩ rfl rfl (by (repeat (first|exact zH _|apply zT));done))) ?_
    refine rj_alloc (wn0 rfl) rfl Tryz.zeroValue87 rfl (fun b11 => ?_)
    refine rj_stores_all (vs := [.pointer (some ⟨bd, 0, none⟩), .bool g.down, .int .u64 g.term, .int .i64 g.vote, .int .u64 g.base, .int .u64 g.baseT, .string (str g.state), .slice q g.all.length cap]) ⟨Tryz.isAgg87, Tryz.sizeOf87⟩ rfl (wn0 rfl) rfl rfl (lgC_one g rfl) (by (repeat (first|exact zH _|apply zT));done) rfl ?_
    refine rj_nil ?_
    refine hK4 _ _ _ ?_
    refine cj_env (eL 0 rfl (eL 1 rfl (eL 2 rfl (eL 3 rfl (eL 11 rfl eN))))) ?_
    refine cj_seq (fun K5 hK5 => ?_)
    refine cj_region ?_
    refine rv0 rfl rfl rfl (y_move rfl) ?_
    refine rv0 rfl rfl rfl (y_move rfl) ?_
    refine rv0 rfl rfl rfl (y_move rfl) ?_
    refine rv0 rfl rfl rfl (y_fieldAddr (k := 7) Tryz.underlying87 rfl (n := 1) (by decide) Tryz.sizeOf32 rfl) ?_
    refine rj_store ⟨Tryz.isAgg32, Tryz.sizeOf32⟩ (wn0 rfl) rfl rfl (by (first | rfl | assumption | (apply cutV_one; assumption))) (by (repeat (first|exact zH _|apply zT));done) rfl rfl ?_
    refine rv0 rfl rfl rfl (y_fieldAddr (k := 4) Tryz.underlying87 rfl (n := 1) (by decide) Tryz.sizeOf31 rfl) ?_
    refine rj_store ⟨Tryz.isAgg31, Tryz.sizeOf31⟩ (wn0 rfl) rfl rfl (by (first | rfl | assumption | (apply cutV_one; assumption))) (by (repeat (first|exact zH _|apply zT));done) rfl rfl ?_
    refine rv0 rfl rfl rfl (y_fieldAddr (k := 5) Tryz.underlying87 rfl (n := 1) (by decide) Tryz.sizeOf31 rfl) ?_
    refine rj_store ⟨Tryz.isAgg31, Tryz.sizeOf31⟩ (wn0 rfl) rfl rfl (by (first | rfl | assumption | (apply cutV_one; assumption))) (by (repeat (first|exact zH _|apply zT));done) rfl rfl ?_
    refine rv0 rfl rfl rfl (y_fieldAddr (k := 6) Tryz.underlying87 rfl (n := 1) (by decide) Tryz.sizeOf9 rfl) ?_
    refine rj_store ⟨Tryz.isAgg9, Tryz.sizeOf9⟩ (wn0 rfl) rfl rfl (by (first | rfl | assumption | (apply cutV_one; assumption))) (by (repeat (first|exact zH _|apply zT));done) rfl rfl ?_
    refine rj_nil ?_
    refine hK5 _ _ _ ?_
    refine cj_env (eL 0 rfl (eL 11 rfl eN)) ?_
    refine cj_seq (fun K6 hK6 => ?_)
    refine cj_region ?_
    refine rv0 rfl rfl rfl (y_move rfl) ?_
    refine rv0 rfl rfl rfl ((y_loads_all (vs := lgC (some ⟨bd, 0, none⟩) (.slice none 0 0) (g.base0 i t s)) ⟨Tryz.isAgg87, Tryz.sizeOf87⟩ rfl rfl (by (repeat (first|exact zH _|apply zT));done))) ?_
    refine rj_call (wn0 rfl) rfl Tryz.call100 rfl (lgSwap_t b bd (.slice q g.all.length cap) u (.slice none 0 0) g (g.base0 i t s) D n rfl hbok FrX.nil hwl hD) (by (repeat (first|exact zN _|(apply zS;focus (repeat (first|exact zH _|apply zT)))))) (fun _ _ _ _ h => h.elim) ?_
    rintro x R4 L' hR4 ⟨rfl, u2, rfl⟩
    unfold lgB lgC
    have hiD : g.instD D i t s = g.swapD D (g.base0 i t s) := by unfold LG.instD; rw [if_neg f0, if_neg f1, if_neg h2]
    try simp only [List.cons_append, List.nil_append]
    refine rv0 rfl rfl rfl (y_assign rfl) ?_
    refine rj_nil ?_
    refine hK6 _ _ _ ?_
    refine cj_env (eL 8 rfl eN) ?_
    refine cj_ret ?_
    refine hret _ _ _ ?_
    apply ej_ret Tryz.results70 (.cons (rv_tmp rfl) .nil) _ [lgB b (some ⟨bd, 0, none⟩) (if (g.swapD D (g.base0 i t s)).1 = 0 then .slice none 0 0 else .slice q g.all.length cap) (g.swapD D (g.base0 i t s)).2.1, dkB bd u2 (g.swapD D (g.base0 i t s)).2.2, dkS u2 (g.swapD D (g.base0 i t s)).2.2] (by first | exact Hp.le_refl _ | exact hR4) rfl
    case hp => rw [hiD]; exact ⟨rfl, u2, _, swapD_fr (hva0.mono hR4) FrX.nil, rfl⟩
    case hS => (repeat (first|exact zR _|(apply zP;focus (repeat (first|exact zH _|apply zT)))|apply zD|exact zA _ _))
   refine cj_seq (fun K7 hK7 => ?_)
   refine cj_region ?_
   refine rv0 rfl rfl rfl (y_move rfl) ?_
   refine rv0 rfl rfl rfl (y_move rfl) ?_
   refine rv0 rfl rfl rfl (y_call Tryz.call96 rfl (htq) (by (repeat (first|exact zN _|(apply zS;focus (repeat (first|exact zH _|apply zT))))))) ?_
   refine rj_eq 41 rfl (v' := tupOf [.int .u64 ((g.termAt i).getD 0), .bool (g.termAt i).isSome]) (numV_eq _) ?_
   refine rv0 rfl rfl rfl (y_move rfl) ?_
   refine rv0 rfl rfl rfl (y_extract rfl rfl) ?_
   refine rv0 rfl rfl rfl (y_extract rfl rfl) ?_
   refine rv0 rfl rfl rfl (y_assign rfl) ?_
   refine rv0 rfl rfl rfl (y_assign rfl) ?_
   refine rj_nil ?_
   refine hK7 _ _ _ ?_
   refine cj_env (eL 0 rfl (eL 1 rfl (eL 2 rfl (eL 3 rfl (eL 9 rfl (eL 10 rfl eN)))))) ?_
   refine cj_seq (fun K8 hK8 => ?_)
   refine cj_region ?_
   refine rv0 rfl rfl rfl (y_move rfl) ?_
   refine rv0 rfl rfl rfl (y_move rfl) ?_
   refine rj_part 45 rfl (fun hg45 => ?_) (fun hg45 => ?_)
   ·have h1 : (g.termAt i).isSome = true := hg45
    obtain ⟨tt, htt⟩ := Option.isSome_iff_exists.1 h1
    rw [htt]
    refine rj_val (wn1 rfl rfl rfl rfl) rfl rfl (y_move rfl) ?_
    refine rj_val (wn1 rfl rfl rfl rfl) rfl rfl (y_move rfl) ?_
    refine rj_val (wn1 rfl rfl rfl rfl) rfl rfl (y_eql rfl rfl) ?_
    refine rv0 rfl rfl rfl (y_pick_t rfl rfl) ?_
    refine rj_nil ?_
    refine hK8 _ _ _ ?_
    refine cj_env (eL 0 rfl (eL 1 rfl (eL 2 rfl (eL 3 rfl (eL 49 rfl eN))))) ?_
    refine cj_cond rfl (fun hc49 => ?_) (fun hc49 => ?_)
    ·first | have h2 : g.termAt i = some t := by rw [htt]; simpa using hc49 | skip
     refine cj_seq (fun K10 hK10 => ?_)
     refine cj_region ?_
     refine rv0 rfl rfl rfl (y_move rfl) ?_
     refine rv0 rfl rfl rfl (y_move rfl) ?_
     refine rv0 rfl rfl rfl (y_move rfl) ?_
     refine rj_call (wn0 rfl) rfl Tryz.call87 rfl (hct) (by (repeat (first|exact zN _|(apply zS;focus (repeat (first|exact zH _|apply zT)))))) (fun _ _ _ _ h => h.elim) ?_
     rintro x R4 L' hR4 ⟨rfl, u2, va2, hva2, rfl⟩
     have hiD : g.instD D i t s = g.compD D i s := by unfold LG.instD; rw [if_neg f0, if_neg f1, if_pos h2]
     try simp only [List.cons_append, List.nil_append]
     refine rv0 rfl rfl rfl (y_assign rfl) ?_
     refine rj_nil ?_
     refine hK10 _ _ _ ?_
     refine cj_env (eL 8 rfl eN) ?_
     refine cj_ret ?_
     refine hret _ _ _ ?_
     apply ej_ret Tryz.results70 (.cons (rv_tmp rfl) .nil) _ [lgB b (some ⟨bd, 0, none⟩) va2 (g.compD D i s).2.1, dkB bd u2 (g.compD D i s).2.2, dkS u2 (g.compD D i s).2.2] (by first | exact Hp.le_refl _ | exact hR4) rfl
     case hp => rw [hiD]; exact ⟨rfl, u2, va2, hva2, rfl⟩
     case hS => (repeat (first|exact zR _|(apply zP;focus (repeat (first|exact zH _|apply zT)))|apply zD|exact zA _ _))
    ·first | have h2 : ¬ g.termAt i = some t := by rw [htt]; simpa using hc49 | skip
     refine cj_skip ?_
     refine ej_join hJ8 (0) (h2) (eC rfl (eC rfl (eC rfl (eC rfl eN)))) rfl (by (repeat (first|exact zR _|(apply zP;focus (repeat (first|exact zH _|apply zT)))|apply zD|exact zA _ _)))
   ·have h1 : g.termAt i = none := by simpa using hg45
    have h2 : ¬ g.termAt i = some t := by rw [h1]; simp
    refine rj_skip (wn2 rfl rfl rfl rfl rfl) rfl rfl ?_
    refine rj_skip (wn2 rfl rfl rfl rfl rfl) rfl rfl ?_
    refine rj_skip (wn2 rfl rfl rfl rfl rfl) rfl rfl ?_
    refine rv0 rfl rfl rfl (y_pick_f rfl rfl) ?_
    refine rj_nil ?_
    refine hK8 _ _ _ ?_
    refine cj_env (eL 0 rfl (eL 1 rfl (eL 2 rfl (eL 3 rfl (eL 49 rfl eN))))) ?_
    refine cj_cond_f rfl ?_
    refine cj_skip ?_
    refine ej_join hJ8 (0) (h2) (eC rfl (eC rfl (eC rfl (eC rfl eN)))) rfl (by (repeat (first|exact zR _|(apply zP;focus (repeat (first|exact zH _|apply zT)))|apply zD|exact zA _ _)))
  refine cj_block ?_
  refine cj_seq (fun K11 hK11 => ?_)
  refine cj_region ?_
  refine rv0 rfl rfl rfl (y_move rfl) ?_
  refine rv0 rfl rfl rfl (y_call Tryz.call59 rfl (hdq) (by (repeat (first|exact zN _|(apply zS;focus (repeat (first|exact zH _|apply zT))))))) ?_
  refine rv0 rfl rfl rfl (y_assign rfl) ?_
  refine rj_nil ?_
  refine hK11 _ _ _ ?_
  refine cj_env (eL 0 rfl (eL 1 rfl (eL 2 rfl (eL 3 rfl (eL 12 rfl eN))))) ?_
  refine cj_cond rfl (fun hc12 => ?_) (fun hc12 => ?_)
  ·have f0 : (g.down || D.down) = true := hc12
   refine cj_seq (fun K13 hK13 => ?_)
   refine cj_region ?_
   refine rv0 rfl rfl rfl (y_assign rfl) ?_
   refine rj_nil ?_
   refine hK13 _ _ _ ?_
   refine cj_env (eL 8 rfl eN) ?_
   refine cj_ret ?_
   refine hret _ _ _ ?_
   apply ej_ret Tryz.results70 (.cons (rv_tmp rfl) .nil) _ [lgB b (some ⟨bd, 0, none⟩) (.slice q g.all.length cap) g, dkB bd u D, dkS u D] (by first | exact Hp.le_refl _ | exact hR4) rfl
   case hp => rw [show g.instD D i t s = (3, g, D) by unfold LG.instD; rw [if_pos f0]]; exact ⟨rfl, u, _, hva0, rfl⟩
   case hS => (repeat (first|exact zR _|(apply zP;focus (repeat (first|exact zH _|apply zT)))|apply zD|exact zA _ _))
  ·have f0 : ¬ (g.down || D.down) = true := by simpa using hc12
   obtain ⟨f01, f02⟩ : g.down = false ∧ D.down = false := by simpa using f0
   refine cj_seq (fun K14 hK14 => ?_)
   refine cj_region ?_
   refine rv0 rfl rfl rfl (y_move rfl) ?_
   refine rv0 rfl rfl rfl (y_move rfl) ?_
   refine rv0 rfl rfl rfl (y_nilCheck rfl) ?_
   refine rv0 rfl rfl rfl (y_fieldAddr (k := 4) Tryz.underlying87 rfl (n := 1) (by decide) Tryz.sizeOf31 rfl) ?_
   first | refine rv0 rfl rfl rfl (y_load ⟨Tryz.isAgg31, Tryz.sizeOf31⟩ rfl (by (repeat (first|exact zH _|apply zT));done) rfl) ?_ | refine rv0 rfl rfl rfl (y_load_slc ⟨Tryz.isAgg31, Tryz.sizeOf31⟩ rfl (by (repeat (first|exact zH _|apply zT));done) rfl) ?_
   refine rv0 rfl rfl rfl (y_lss rfl rfl) ?_
   refine rv0 rfl rfl rfl (y_move rfl) ?_
   refine rj_part 22 rfl (fun hg22 => ?_) (fun hg22 => ?_)
   ·have f1 : i < g.base ∨ (i = g.base ∧ ¬ t = g.baseT) := .inl (by simpa using hg22)
    refine rj_skip (wn2 rfl rfl rfl rfl rfl) rfl rfl ?_
    refine rj_skip (wn2 rfl rfl rfl rfl rfl) rfl rfl ?_
    refine rj_skip (wn2 rfl rfl rfl rfl rfl) rfl rfl ?_
    refine rj_skip (wn2 rfl rfl rfl rfl rfl) rfl rfl ?_
    refine rj_skip (wn2 rfl rfl rfl rfl rfl) rfl rfl ?_
    refine rj_skip (wn2 rfl rfl rfl rfl rfl) rfl rfl ?_
    refine rj_skip (wn2 rfl rfl rfl rfl rfl) rfl rfl ?_
    refine rj_skip (wn3 rfl rfl rfl rfl) rfl rfl ?_
    refine rj_skip (wn3 rfl rfl rfl rfl) rfl rfl ?_
    refine rj_skip (wn3 rfl rfl rfl rfl) rfl rfl ?_
    refine rj_skip (wn3 rfl rfl rfl rfl) rfl rfl ?_
    refine rj_skip (wn3 rfl rfl rfl rfl) rfl rfl ?_
    refine rj_skip (wn3 rfl rfl rfl rfl) rfl rfl ?_
    refine rj_skip (wn2 rfl rfl rfl rfl rfl) rfl rfl ?_
    refine rv0 rfl rfl rfl (y_pick_t rfl rfl) ?_
    refine rv0 rfl rfl rfl (y_assign rfl) ?_
    refine rj_nil ?_
    refine hK14 _ _ _ ?_
    refine cj_env (eL 0 rfl (eL 1 rfl (eL 2 rfl (eL 3 rfl (eL 15 rfl eN))))) ?_
    refine cj_cond_t rfl ?_
    refine cj_seq (fun K15 hK15 => ?_)
    refine cj_region ?_
    refine rv0 rfl rfl rfl (y_assign rfl) ?_
    refine rj_nil ?_
    refine hK15 _ _ _ ?_
    refine cj_env (eL 8 rfl eN) ?_
    refine cj_ret ?_
    refine hret _ _ _ ?_
    apply ej_ret Tryz.results70 (.cons (rv_tmp rfl) .nil) _ [lgB b (some ⟨bd, 0, none⟩) (.slice q g.all.length cap) g, dkB bd u D, dkS u D] (by first | exact Hp.le_refl _ | exact hR4) rfl
    case hp => rw [show g.instD D i t s = (1, g, D) by unfold LG.instD; rw [if_neg f0, if_pos f1]]; exact ⟨rfl, u, _, hva0, rfl⟩
    case hS => (repeat (first|exact zR _|(apply zP;focus (repeat (first|exact zH _|apply zT)))|apply zD|exact zA _ _))
   ·have f10 : ¬ i < g.base := by simpa using hg22
    refine rj_val (wn1 rfl rfl rfl rfl) rfl rfl (y_move rfl) ?_
    refine rj_val (wn1 rfl rfl rfl rfl) rfl rfl (y_move rfl) ?_
    refine rj_val (wn1 rfl rfl rfl rfl) rfl rfl (y_nilCheck rfl) ?_
    refine rj_val (wn1 rfl rfl rfl rfl) rfl rfl (y_fieldAddr (k := 4) Tryz.underlying87 rfl (n := 1) (by decide) Tryz.sizeOf31 rfl) ?_
    first | refine rj_val (wn1 rfl rfl rfl rfl) rfl rfl (y_load ⟨Tryz.isAgg31, Tryz.sizeOf31⟩ rfl (by (repeat (first|exact zH _|apply zT));done) rfl) ?_ | refine rj_val (wn1 rfl rfl rfl rfl) rfl rfl (y_load_slc ⟨Tryz.isAgg31, Tryz.sizeOf31⟩ rfl (by (repeat (first|exact zH _|apply zT));done) rfl) ?_
    refine rj_val (wn1 rfl rfl rfl rfl) rfl rfl (y_eql rfl rfl) ?_
    refine rj_val (wn1 rfl rfl rfl rfl) rfl rfl (y_move rfl) ?_
    refine rj_part 29 rfl (fun hg29 => ?_) (fun hg29 => ?_)
    ·have f11 : i = g.base := by simpa using hg29
     refine rj_val (wn1 rfl rfl rfl rfl) rfl rfl (y_move rfl) ?_
     refine rj_val (wn1 rfl rfl rfl rfl) rfl rfl (y_move rfl) ?_
     refine rj_val (wn1 rfl rfl rfl rfl) rfl rfl (y_nilCheck rfl) ?_
     refine rj_val (wn1 rfl rfl rfl rfl) rfl rfl (y_fieldAddr (k := 5) Tryz.underlying87 rfl (n := 1) (by decide) Tryz.sizeOf31 rfl) ?_
     first | refine rj_val (wn1 rfl rfl rfl rfl) rfl rfl (y_load ⟨Tryz.isAgg31, Tryz.sizeOf31⟩ rfl (by (repeat (first|exact zH _|apply zT));done) rfl) ?_ | refine rj_val (wn1 rfl rfl rfl rfl) rfl rfl (y_load_slc ⟨Tryz.isAgg31, Tryz.sizeOf31⟩ rfl (by (repeat (first|exact zH _|apply zT));done) rfl) ?_
     refine rj_val (wn1 rfl rfl rfl rfl) rfl rfl (y_neq rfl rfl) ?_
     refine rj_val (wn1 rfl rfl rfl rfl) rfl rfl (y_pick_t rfl rfl) ?_
     refine rv0 rfl rfl rfl (y_pick_f rfl rfl) ?_
     refine rv0 rfl rfl rfl (y_assign rfl) ?_
     refine rj_nil ?_
     refine hK14 _ _ _ ?_
     refine cj_env (eL 0 rfl (eL 1 rfl (eL 2 rfl (eL 3 rfl (eL 15 rfl eN))))) ?_
     refine cj_cond rfl (fun hc15 => ?_) (fun hc15 => ?_)
     ·first | have f1 : i < g.base ∨ (i = g.base ∧ ¬ t = g.baseT) := .inr ⟨f11, by simpa using hc15⟩ | skip
      refine cj_seq (fun K17 hK17 => ?_)
      refine cj_region ?_
      refine rv0 rfl rfl rfl (y_assign rfl) ?_
      refine rj_nil ?_
      refine hK17 _ _ _ ?_
      refine cj_env (eL 8 rfl eN) ?_
      refine cj_ret ?_
      refine hret _ _ _ ?_
      apply ej_ret Tryz.results70 (.cons (rv_tmp rfl) .nil) _ [lgB b (some ⟨bd, 0, none⟩) (.slice q g.all.length cap) g, dkB bd u D, dkS u D] (by first | exact Hp.le_refl _ | exact hR4) rfl
      case hp => rw [show g.instD D i t s = (1, g, D) by unfold LG.instD; rw [if_neg f0, if_pos f1]]; exact ⟨rfl, u, _, hva0, rfl⟩
      case hS => (repeat (first|exact zR _|(apply zP;focus (repeat (first|exact zH _|apply zT)))|apply zD|exact zA _ _))
     ·first | have f1 : ¬ (i < g.base ∨ (i = g.base ∧ ¬ t = g.baseT)) := by (try simp at hc15); omega | skip
      refine cj_skip ?_
      refine ej_join hJ5 (0) (⟨f0, f1⟩) (eC rfl (eC rfl (eC rfl (eC rfl eN)))) rfl (by (repeat (first|exact zR _|(apply zP;focus (repeat (first|exact zH _|apply zT)))|apply zD|exact zA _ _)))
    ·have f11 : ¬ i = g.base := by simpa using hg29
     have f1 : ¬ (i < g.base ∨ (i = g.base ∧ ¬ t = g.baseT)) := by omega
     refine rj_skip (wn2 rfl rfl rfl rfl rfl) rfl rfl ?_
     refine rj_skip (wn2 rfl rfl rfl rfl rfl) rfl rfl ?_
     refine rj_skip (wn2 rfl rfl rfl rfl rfl) rfl rfl ?_
     refine rj_skip (wn2 rfl rfl rfl rfl rfl) rfl rfl ?_
     refine rj_skip (wn2 rfl rfl rfl rfl rfl) rfl rfl ?_
     refine rj_skip (wn2 rfl rfl rfl rfl rfl) rfl rfl ?_
     refine rj_val (wn1 rfl rfl rfl rfl) rfl rfl (y_pick_f rfl rfl) ?_
     refine rv0 rfl rfl rfl (y_pick_f rfl rfl) ?_
     refine rv0 rfl rfl rfl (y_assign rfl) ?_
     refine rj_nil ?_
     refine hK14 _ _ _ ?_
     refine cj_env (eL 0 rfl (eL 1 rfl (eL 2 rfl (eL 3 rfl (eL 15 rfl eN))))) ?_
     refine cj_cond_f rfl ?_
     refine cj_skip ?_
     refine ej_join hJ5 (0) (⟨f0, f1⟩) (eC rfl (eC rfl (eC rfl (eC rfl eN)))) rfl (by (repeat (first|exact zR _|(apply zP;focus (repeat (first|exact zH _|apply zT)))|apply zD|exact zA _ _)))
end V
end Go.Proofs.YtjdbigplednihaaGreat
set_option linter.unusedSimpArgs false
set_option linter.unusedVariables false
namespace Go.Proofs.YtjdbigplednihaaGreat
open Go.RowKit
namespace V
section
variable {c : Cx} {ops : Array Oper} {Q : Exit → Act → World → Prop} {R : Hp} {L : List Asn}
def brkB (ops : Array Oper) (fl ft : List Nat) (b : Nat) : Bool := fl.all fun i => ft.contains i || ancB ops ops.size b i
def SB (c : Cx) (ops : Array Oper) (Q : Exit → Act → World → Prop) (fl ft : List Nat) (b : Nat) : List Nat → Env → Hp → List Asn → List Asn → Prop
  | [], E, R, L, G => EJ c (Q .normal) E R (L ++ G)
  | i :: is, E, R, L, G => (i ∈ fl ∧ ∃ v E', FSpec c ops R L i E v E' ∧ (i ∈ ft → FSpec c ops R [] i E v E') ∧ SB c ops Q fl ft b is E' R L G) ∨
      (i ∉ fl ∧ ∃ o, ops[i]? = some o ∧ ∀ a w, Fr c.n E a → Sat c.σ R (L ++ G) w →
        if Region.wanted o (yielded ops a.tmps) then o.wp c.P a w (fun a' w' => ∃ u E' R' L' G', (L' = L ∨ (i = b ∧ L' = [])) ∧ R.le R' ∧ a' = a.put o.dst u ∧ Fr c.n E' a' ∧ Sat c.σ R' (L' ++ G') w' ∧ SB c ops Q fl ft b is E' R' L' G') (fun _ _ _ => False)
        else ∃ E' R' L' G', (L' = L ∨ (i = b ∧ L' = [])) ∧ R.le R' ∧ Fr c.n E' (a.put o.dst undef) ∧ Sat c.σ R' (L' ++ G') w ∧ SB c ops Q fl ft b is E' R' L' G')
structure SegC (c : Cx) (ops : Array Oper) (Q : Exit → Act → World → Prop) (L : List Asn) (fl ft : List Nat) (b : Nat) (listed : Array Bool) (a : Act) (w : World) (pend : List (Nat × Value)) (l : List Nat) (r : Option Nat) (E : Env) (R : Hp) (G : List Asn) : Prop where
  pf : ∀ x ∈ pend, x.1 ∈ fl ∧ x.1 < ops.size ∧ noSel ops x.1 = true ∧ looksB ops x.1 x.1 = false
  pp : ∀ x ∈ pend, ∀ y ∈ pend, x.1 ≠ y.1 → (looksB ops x.1 y.1 = false ∨ ancB ops ops.size x.1 y.1 = true) ∧ sameDst ops x.1 y.1 = false
  pl : ∀ x ∈ pend, ∀ j ∈ l, apart ops x.1 j
  nd : (pend.map (·.1) ++ l).Nodup
  lb : ∀ j ∈ l, j < ops.size ∧ noSel ops j = true ∧ (j ∈ fl → looksB ops j j = false)
  sp : segP ops fl r l = true
  sj : SB c ops Q fl ft b l E R L G
  fr : Fr c.n E (virt ops a pend)
  sat : Sat c.σ R (L ++ G) w
  qk : ∀ x ∈ pend, QK c ops R L x (virt ops a pend)
  q0 : ∀ x ∈ pend, x.1 ∈ ft → QK c ops R [] x (virt ops a pend)
  bk : ∀ x ∈ fl, x ∈ ft ∨ ancB ops ops.size b x = true
  un : ∀ j, j < ops.size → (listed.getD j false = false ↔ j ∈ pend.map (·.1) ∨ j ∈ l)
theorem SegC.float {fl ft : List Nat} {b : Nat} {listed : Array Bool} {a : Act} {w : World} {pend : List (Nat × Value)} {i : Nat} {l : List Nat} {r : Option Nat} {E : Env} {R : Hp} {G : List Asn} (h : SegC c ops Q L fl ft b listed a w pend (i :: l) r E R G) (hi : i ∈ fl) :
    ∃ v E', SegC c ops Q L fl ft b listed a w ((i, v) :: pend) l r E' R G := by
  obtain ⟨h1, h2, h3⟩ := segP_cons h.sp
  rw [if_pos hi] at h3
  rcases h.sj with ⟨_, v, E', hsp, hsp0, hsj⟩ | ⟨hn, _⟩
  · obtain ⟨hlt, hns, hself⟩ := h.lb i (by simp)
    obtain ⟨q0, hf'⟩ := QK.spec hns hsp h.fr
    have hnd := h.nd
    have hne : ∀ x ∈ pend, x.1 ≠ i := fun x hx he => by
      rw [List.nodup_append] at hnd
      exact hnd.2.2 x.1 (List.mem_map.2 ⟨x, hx, rfl⟩) i (by simp) he
    have hvirt : virt ops a ((i, v) :: pend) = (virt ops a pend).put (dstAt ops i) v := rfl
    refine ⟨v, E', ?_, ?_, ?_, ?_, fun j hj => h.lb j (by simp [hj]), h3, hsj, hf', h.sat, ?_, ?_, h.bk, fun j hj => ?_⟩
    · intro x hx
      rcases List.mem_cons.1 hx with rfl | hx
      · exact ⟨hi, hlt, hns, hself hi⟩
      · exact h.pf x hx
    · intro x hx y hy hxy
      rcases List.mem_cons.1 hx with rfl | hx
      · rcases List.mem_cons.1 hy with rfl | hy
        · exact absurd rfl hxy
        · have := h.pl y hy i (by simp)
          exact ⟨this.2.2.2, this.2.2.1⟩
      · rcases List.mem_cons.1 hy with rfl | hy
        · have := h.pl x hx i (by simp)
          exact ⟨.inl this.1, this.2.1⟩
        · exact h.pp x hx y hy hxy
    · intro x hx j hj
      rcases List.mem_cons.1 hx with rfl | hx
      · exact h2 j hj (.inl hi)
      · exact h.pl x hx j (by simp [hj])
    · rw [List.map_cons, List.cons_append]
      rw [List.nodup_append] at hnd
      obtain ⟨n1, n2, n3⟩ := hnd
      obtain ⟨n4, n5⟩ := List.nodup_cons.1 n2
      refine List.nodup_cons.2 ⟨fun hm => ?_, List.nodup_append.2 ⟨n1, n5, fun u hu v hv => n3 u hu v (by simp [hv])⟩⟩
      rcases List.mem_append.1 hm with hm | hm
      · obtain ⟨x, hx, he⟩ := List.mem_map.1 hm; exact hne x hx he
      · exact n4 hm
    · intro x hx
      rw [hvirt]
      rcases List.mem_cons.1 hx with rfl | hx
      · exact QK.put (hself hi) q0
      · exact QK.put (h.pl x hx i (by simp)).1 (h.qk x hx)
    · intro x hx hft
      rw [hvirt]
      rcases List.mem_cons.1 hx with rfl | hx
      · exact QK.put (hself hi) (QK.spec hns (hsp0 hft) h.fr).1
      · exact QK.put (h.pl x hx i (by simp)).1 (h.q0 x hx hft)
    · rw [h.un j hj]
      simp only [List.map_cons, List.mem_cons]
      constructor
      · rintro (h | h | h) <;> simp [h]
      · rintro ((h | h) | h) <;> simp [h]
  · exact absurd hi hn
theorem SegC.sated {fl ft : List Nat} {b : Nat} {listed : Array Bool} {a : Act} {w : World} {R : Hp} {G : List Asn} : ∀ {l : List Nat} {pend : List (Nat × Value)} {r : Option Nat} {E : Env}, SegC c ops Q L fl ft b listed a w pend l r E R G →
    ∃ pend' l' r' E', SegC c ops Q L fl ft b listed a w pend' l' r' E' R G ∧ (l' = [] ∨ ∃ k t, l' = k :: t ∧ k ∉ fl) ∧ pend'.length + l'.length = pend.length + l.length
  | [], pend, r, E, h => ⟨pend, [], r, E, h, .inl rfl, rfl⟩
  | i :: l, pend, r, E, h => by
    by_cases hi : i ∈ fl
    · obtain ⟨v, E', h'⟩ := h.float hi
      obtain ⟨p2, l2, r2, E2, h2, h3, h4⟩ := SegC.sated h'
      exact ⟨p2, l2, r2, E2, h2, h3, by rw [h4]; simp; omega⟩
    · exact ⟨pend, i :: l, r, E, h, .inr ⟨i, l, rfl, hi⟩, rfl⟩
theorem segc_any {fl ft : List Nat} {b : Nat} (hlow : lowB ops = true) : ∀ (fuel : Nat) (listed : Array Bool) (a : Act) (w : World) (pend : List (Nat × Value)) (l : List Nat) (r : Option Nat) (E : Env) (R : Hp) (L G : List Asn),
    listed.size = ops.size → Closed1 ops listed → SegC c ops Q L fl ft b listed a w pend l r E R G → (l = [] ∨ ∃ k t, l = k :: t ∧ k ∉ fl) → pend.length + l.length ≤ fuel → wpAny c.P .any ops Q fuel listed a w := by
  intro fuel
  induction fuel with
  | zero =>
    intro listed a w pend l r E R L G hs hc h _ hf
    have e1 := List.eq_nil_of_length_eq_zero (l := pend) (by omega)
    have e2 := List.eq_nil_of_length_eq_zero (l := l) (by omega)
    subst e1 e2
    have hr : Region.ready .any ops listed = [] := by
      cases hr : Region.ready .any ops listed with
      | nil => rfl
      | cons j t =>
        have hj : j ∈ Region.ready .any ops listed := by rw [hr]; simp
        obtain ⟨h0, o, ho, _⟩ := mem_ready.1 hj
        have hlt := (Array.getElem?_eq_some_iff.1 ho).1
        have hu : listed.getD j false = false := by
          rw [Array.getD_eq_getD_getElem?] at h0 ⊢
          rw [Array.getElem?_eq_getElem (by omega)] at h0 ⊢
          simpa using h0
        have := (h.un j hlt).1 hu
        simp at this
    exact wpAny_done hr (h.sj _ _ h.fr h.sat) 0
  | succ fuel ih =>
    intro listed a w pend l r E R L G hs hc h hsat hf
    by_cases hall : pend = [] ∧ l = []
    · obtain ⟨rfl, rfl⟩ := hall
      have hr : Region.ready .any ops listed = [] := by
        cases hr : Region.ready .any ops listed with
        | nil => rfl
        | cons j t =>
          have hj : j ∈ Region.ready .any ops listed := by rw [hr]; simp
          obtain ⟨h0, o, ho, _⟩ := mem_ready.1 hj
          have hlt := (Array.getElem?_eq_some_iff.1 ho).1
          have hu : listed.getD j false = false := by
            rw [Array.getD_eq_getD_getElem?] at h0 ⊢
            rw [Array.getElem?_eq_getElem (by omega)] at h0 ⊢
            simpa using h0
          have := (h.un j hlt).1 hu
          simp at this
      exact wpAny_done hr (h.sj _ _ h.fr h.sat) (fuel + 1)
    have hpu : ∀ y ∈ pend, listed.getD y.1 false = false := fun y hy => (h.un _ (h.pf y hy).2.1).2 (.inl (List.mem_map.2 ⟨y, hy, rfl⟩))
    have hlu : ∀ j ∈ l, listed.getD j false = false := fun j hj => (h.un _ (h.lb j hj).1).2 (.inr hj)
    refine ⟨fun hr => ?_, fun i hi => ?_⟩
    · exfalso
      have : ∃ j, j < ops.size ∧ listed.getD j false = false := by
        cases hpe : pend with
        | cons y p => exact ⟨y.1, (h.pf y (by rw [hpe]; simp)).2.1, hpu y (by rw [hpe]; simp)⟩
        | nil => cases hle : l with
          | cons k p => exact ⟨k, (h.lb k (by rw [hle]; simp)).1, hlu k (by rw [hle]; simp)⟩
          | nil => exact absurd ⟨hpe, hle⟩ hall
      obtain ⟨j, hj, hu⟩ := this
      obtain ⟨k, hk⟩ := exists_ready hlow hs j hj hu
      rw [hr] at hk; cases hk
    · obtain ⟨h0, o, ho, hdeps⟩ := mem_ready.1 hi
      have hilt : i < ops.size := (Array.getElem?_eq_some_iff.1 ho).1
      have hu : listed.getD i false = false := by
        rw [Array.getD_eq_getD_getElem?] at h0 ⊢
        rw [Array.getElem?_eq_getElem (by omega)] at h0 ⊢
        simpa using h0
      have hanc : ∀ j, ancB ops ops.size i j = true → listed.getD j false = true := fun j hj => anc_listed hc _ i j hj fun o' ho' => by rw [ho] at ho'; cases ho'; exact hdeps
      have hs' : (listed.setIfInBounds i true).size = ops.size := by simpa using hs
      have hc' : Closed1 ops (listed.setIfInBounds i true) := hc.set hs hi
      have hgd : ∀ j, (listed.setIfInBounds i true).getD j false = if j = i then true else listed.getD j false := fun j => set_getD (by omega)
      have hod : o.dst = dstAt ops i := by simp [dstAt, ho]
      by_cases hip : i ∈ pend.map (·.1)
      · obtain ⟨x, hx, rfl⟩ := List.mem_map.1 hip
        obtain ⟨p1, p2, rfl⟩ := List.append_of_mem hx
        have hnd := h.nd
        have hnot : ∀ y ∈ p1 ++ p2, y.1 ≠ x.1 := by
          intro y hy he
          have hpn := (List.nodup_append.1 hnd).1
          simp only [List.map_append, List.map_cons] at hpn
          have hn := List.nodup_append.1 hpn
          rcases List.mem_append.1 hy with h | h
          · exact hn.2.2 y.1 (List.mem_map.2 ⟨y, h, rfl⟩) x.1 (by simp) he
          · exact (List.nodup_cons.1 hn.2.1).1 (List.mem_map.2 ⟨y, h, he⟩)
        have hsub : ∀ y ∈ p1 ++ p2, y ∈ p1 ++ x :: p2 := fun y hy => by simp at hy ⊢; rcases hy with h | h <;> simp [h]
        have hlook : ∀ y ∈ p1 ++ x :: p2, looksB ops x.1 y.1 = false := by
          intro y hy
          by_cases he : y.1 = x.1
          · rw [he]; exact (h.pf x hx).2.2.2
          · rcases (h.pp x hx y hy (Ne.symm he)).1 with h | h
            · exact h
            · have := hanc _ h; rw [hpu y hy] at this; cases this
        have hqa : QK c ops R L x a := QK.unvirt hlook (h.qk x hx)
        obtain ⟨o', ho', hsel, hqq⟩ := hqa
        rw [ho] at ho'; cases ho'
        have hvt := virt_take (ops := ops) (x := x) p1 p2 a fun y hy e he => not_same (h.pf y (hsub y hy)).2.1 (h.pp y (hsub y hy) x hx (hnot y hy)).2 e he
        have next : ∀ w', Sat c.σ R (L ++ G) w' → wpAny c.P .any ops Q fuel (listed.setIfInBounds x.1 true) (a.put o.dst x.2) w' := by
          intro w' hw'
          rw [hod]
          refine ih _ _ _ (p1 ++ p2) l r E R L G hs' hc' ⟨fun y hy => h.pf y (hsub y hy), fun y hy z hz => h.pp y (hsub y hy) z (hsub z hz), fun y hy => h.pl y (hsub y hy), ?_, h.lb, h.sp, h.sj, by rw [← hvt]; exact h.fr, hw', fun y hy => by rw [← hvt]; exact h.qk y (hsub y hy), fun y hy hft => by rw [← hvt]; exact h.q0 y (hsub y hy) hft, h.bk, fun j hj => ?_⟩ hsat (by simp at hf ⊢; omega)
          · have hp : (p1.map (·.1) ++ (p2.map (·.1) ++ l)).Nodup := by
              simp only [List.map_append, List.map_cons, List.append_assoc, List.cons_append] at hnd
              have hn := List.nodup_append.1 hnd
              exact List.nodup_append.2 ⟨hn.1, (List.nodup_cons.1 hn.2.1).2, fun u hu v hv => hn.2.2 u hu v (by simp at hv ⊢; exact .inr hv)⟩
            simpa [List.map_append, List.append_assoc] using hp
          · rw [hgd]
            by_cases hji : j = x.1
            · rw [if_pos hji]
              simp only [Bool.true_eq_false, false_iff, not_or]
              subst hji
              refine ⟨fun h => ?_, fun hm => ?_⟩
              · obtain ⟨y, hy, he⟩ := List.mem_map.1 h; exact hnot y hy he
              · exact (List.nodup_append.1 hnd).2.2 x.1 (List.mem_map.2 ⟨x, hx, rfl⟩) x.1 hm rfl
            · rw [if_neg hji, h.un j hj]
              simp only [List.map_append, List.map_cons, List.mem_append, List.mem_cons]
              constructor
              · rintro ((h | h | h) | h) <;> first | exact absurd h hji | simp [h]
              · rintro ((h | h) | h) <;> simp [h]
        unfold wpOp
        rw [ho]
        simp only
        cases hwt : Region.wanted o (yielded ops a.tmps) with
        | true =>
          rw [if_pos rfl]
          refine .inl (Oper.wp_of_quiet (C := Sat c.σ R (L ++ G)) (K := fun a' => a' = a.put o.dst x.2) h.sat (fun a' w' hw' ha' => by subst ha'; exact next w' hw') ⟨x.2, fun w' hw' => ?_, rfl⟩)
          rcases hqq R (Hp.le_refl R) G w' hw' with h | h
          · exact h.2
          · rw [hwt] at h; cases h.1
        | false =>
          rw [if_neg (by decide)]
          rcases hqq R (Hp.le_refl R) G w h.sat with h1 | h1
          · rw [hwt] at h1; cases h1.1
          · have := next w h.sat; rw [h1.2] at this; exact this
      · have hmem : i ∈ l := ((h.un i hilt).1 hu).resolve_left hip
        rcases hsat with rfl | ⟨k, t, rfl, hk⟩
        · cases hmem
        obtain ⟨s1, s2, s3⟩ := segP_cons h.sp
        rw [if_neg hk] at s3
        have hik : i = k := by
          rcases List.mem_cons.1 hmem with e | hm
          · exact e
          · exfalso
            obtain ⟨j, hj, ha⟩ := segP_row s3 hm
            have := hanc j ha
            rw [hlu j (by rcases hj with rfl | hj <;> simp [*])] at this; cases this
        subst hik
        rcases h.sj with ⟨hn, _⟩ | ⟨_, o', ho', hstep⟩
        · exact absurd hn hk
        rw [ho] at ho'; cases ho'
        have hlk : ∀ y ∈ pend, ∀ d, dstAt ops y.1 = some d → d ∉ o.looksAt ops := by
          intro y hy
          refine not_looks ho ?_
          rcases (h.pl y hy i (by simp)).2.2.2 with h | h
          · exact h
          · have := hanc _ h; rw [hpu y hy] at this; cases this
        have hsel := noSel_spec ho (h.lb i (by simp)).2.1
        have hst := hstep _ w h.fr h.sat
        rw [wanted_virt hlk] at hst
        have hvp : ∀ u, virt ops (a.put o.dst u) pend = (virt ops a pend).put o.dst u := fun u => virt_put pend a fun y hy e he => by
          rw [hod] at he
          exact not_same (h.pf y hy).2.1 (h.pl y hy i (by simp)).2.1 e he
        have next : ∀ u w' E' R2 L2 G', (L2 = L ∨ (i = b ∧ L2 = [])) → R.le R2 → Fr c.n E' ((virt ops a pend).put o.dst u) → Sat c.σ R2 (L2 ++ G') w' → SB c ops Q fl ft b t E' R2 L2 G' →
            wpAny c.P .any ops Q fuel (listed.setIfInBounds i true) (a.put o.dst u) w' := by
          intro u w' E' R2 L2 G' hL2 hle hE' hw' hX'
          have hq2 : ∀ y ∈ pend, QK c ops R L2 y (virt ops a pend) := fun y hy => by
            rcases hL2 with rfl | ⟨hib, rfl⟩
            · exact h.qk y hy
            · rcases h.bk y.1 (h.pf y hy).1 with hft | ha
              · exact h.q0 y hy hft
              · have := hanc y.1 (by rw [hib]; exact ha)
                rw [hpu y hy] at this; cases this
          have hnd := h.nd
          have h2 : SegC c ops Q L2 fl ft b (listed.setIfInBounds i true) (a.put o.dst u) w' pend t (some i) E' R2 G' := by
            refine ⟨h.pf, h.pp, fun y hy j hj => h.pl y hy j (by simp [hj]), ?_, fun j hj => h.lb j (by simp [hj]), s3, hX', by rw [hvp]; exact hE', hw', fun y hy => ?_, fun y hy hft => ?_, h.bk, fun j hj => ?_⟩
            · have hn := List.nodup_append.1 hnd
              exact List.nodup_append.2 ⟨hn.1, (List.nodup_cons.1 hn.2.1).2, fun u hu v hv => hn.2.2 u hu v (by simp [hv])⟩
            · rw [hvp, hod]
              exact QK.put (h.pl y hy i (by simp)).1 ((hq2 y hy).mono hle)
            · rw [hvp, hod]
              exact QK.put (h.pl y hy i (by simp)).1 ((h.q0 y hy hft).mono hle)
            · rw [hgd]
              by_cases hji : j = i
              · rw [if_pos hji]
                simp only [Bool.true_eq_false, false_iff, not_or]
                subst hji
                exact ⟨hip, fun hm => (List.nodup_cons.1 (List.nodup_append.1 hnd).2.1).1 hm⟩
              · rw [if_neg hji, h.un j hj]
                simp only [List.mem_cons]
                constructor
                · rintro (h | h | h) <;> first | exact absurd h hji | simp [h]
                · rintro (h | h) <;> simp [h]
          obtain ⟨p3, l3, r3, E3, h3, h4, h5⟩ := h2.sated
          exact ih _ _ _ p3 l3 r3 E3 R2 L2 G' hs' hc' h3 h4 (by rw [h5]; simp at hf; omega)
        unfold wpOp
        rw [ho]
        simp only
        cases hwt : Region.wanted o (yielded ops a.tmps) with
        | true =>
          rw [hwt, if_pos rfl] at hst
          rw [if_pos rfl]
          refine .inl ?_
          unfold Oper.wp at hst ⊢
          rw [execOp_virt hsel hlk] at hst
          refine upon_move hst ?_ ?_
          · rintro u w' ⟨u', E', R2, L2, G', hL2, hle, he, h1, h2, h3⟩
            exact next u w' E' R2 L2 G' hL2 hle h1 h2 h3
          · rintro q w' ⟨u', E', R2, L2, G', hL2, hle, he, h1, h2, h3⟩
            have := h1.dfs
            cases hd2 : o.dst <;> simp [Act.put, hd2] at this
        | false =>
          rw [hwt, if_neg (by decide)] at hst
          rw [if_neg (by decide)]
          obtain ⟨E', R2, L2, G', hL2, hle, h1, h2, h3⟩ := hst
          exact next undef w E' R2 L2 G' hL2 hle h1 h2 h3
end
section
variable {c : Cx} {l : List Oper} {Q : Exit → Act → World → Prop} {E : Env} {R : Hp} {L : List Asn}
theorem cj_brk {id : Nat} (fl ft : List Nat) (b : Nat) (is : List Nat) (G0 : List Asn) {L0 : List Asn} (hL : Sub L0 (L ++ G0)) (hm : c.P.follows .mixedOrders = true) (hB : segB l.toArray fl is = true) (hbk : brkB l.toArray fl ft b = true)
    (h : SB c l.toArray Q fl ft b is E R L G0) : CJ c (.region id l.toArray true) Q E R L0 := by
  have hB' := hB
  simp only [segB, Bool.and_eq_true, List.all_eq_true, Bool.not_eq_true', decide_eq_true_eq] at hB'
  obtain ⟨⟨⟨⟨⟨hlow, hcover⟩, hnd⟩, hlt⟩, hself⟩, hP⟩ := hB'
  intro a w hf hs
  refine wp_region_any hm ?_
  have hrep : ∀ j, (Array.replicate l.toArray.size false).getD j false = false := fun j => by
    rw [Array.getD_eq_getD_getElem?, Array.getElem?_replicate]; split <;> rfl
  have hI : SegC c l.toArray Q L fl ft b (Array.replicate l.toArray.size false) a w.drew [] is none E R G0 := by
    refine ⟨fun x hx => (by cases hx), fun x hx => (by cases hx), fun x hx => (by cases hx), by simpa using hnd, fun j hj => ?_, hP, h, hf, (hs.sub hL).drew, fun x hx => (by cases hx), fun x hx => (by cases hx), fun x hx => ?_, fun j hj => ?_⟩
    · have := hlt j hj
      exact ⟨Nat.lt_of_lt_of_le (Nat.lt_succ_self _) (Nat.le_of_ble_eq_true this.1), this.2, fun hfl => hself j hfl⟩
    · unfold brkB at hbk
      rw [List.all_eq_true] at hbk
      simpa using hbk x hx
    · rw [hrep]
      have := hcover j (by simpa using hj)
      simp only [List.contains_iff_mem] at this
      simp [this]
  obtain ⟨p3, l3, r3, E3, h3, h4, h5⟩ := hI.sated
  refine segc_any hlow _ _ _ _ p3 l3 r3 E3 R L G0 (by simp) (fun i o _ hl => (by rw [hrep] at hl; cases hl)) h3 h4 ?_
  rw [h5]
  simp only [List.length_nil, Nat.zero_add]
  exact nodup_len _ _ hnd fun x hx => Nat.lt_of_lt_of_le (Nat.lt_succ_self _) (Nat.le_of_ble_eq_true (hlt x hx).1)
variable {fl ft is : List Nat} {b : Nat} {G : List Asn}
theorem sb_val {i d : Nat} {o : Oper} {v : Value} (hi : i ∈ fl) (hp : i ∉ ft) (ho : nthO l i = some o) (hd : o.dst = some d) (hn : Nat.blt d c.n = true) (hw : Wn c l.toArray E o true) (y : ∀ R', R.le R' → ∀ G, Yld c E R' (L ++ G) o v)
    (h : SB c l.toArray Q fl ft b is ((d, v) :: E) R L G) : SB c l.toArray Q fl ft b (i :: is) E R L G :=
  .inl ⟨hi, v, _, ⟨o, d, by rw [nthO_eq] at ho; simpa using ho, hd, hn, rfl, .inl ⟨hw, y⟩⟩, fun h => absurd h hp, h⟩
theorem sb_pure {i d : Nat} {o : Oper} {v : Value} (hi : i ∈ fl) (ho : nthO l i = some o) (hd : o.dst = some d) (hn : Nat.blt d c.n = true) (hw : Wn c l.toArray E o true) (y : ∀ R' G, Yld c E R' G o v)
    (h : SB c l.toArray Q fl ft b is ((d, v) :: E) R L G) : SB c l.toArray Q fl ft b (i :: is) E R L G :=
  .inl ⟨hi, v, _, ⟨o, d, by rw [nthO_eq] at ho; simpa using ho, hd, hn, rfl, .inl ⟨hw, fun R' _ G => y R' _⟩⟩, fun _ => ⟨o, d, by rw [nthO_eq] at ho; simpa using ho, hd, hn, rfl, .inl ⟨hw, fun R' _ G => y R' _⟩⟩, h⟩
theorem sb_nil (h : EJ c (Q .normal) E R (L ++ G)) : SB c l.toArray Q fl ft b [] E R L G := h
def BK (c : Cx) (ops : Array Oper) (R : Hp) (L : List Asn) (Q : Exit → Act → World → Prop) (fl ft : List Nat) (b i : Nat) (is : List Nat) (a : Act) (w : World) : Prop :=
  ∃ E' R' L' G', (L' = L ∨ (i = b ∧ L' = [])) ∧ R.le R' ∧ Fr c.n E' a ∧ Sat c.σ R' (L' ++ G') w ∧ SB c ops Q fl ft b is E' R' L' G'
theorem sb_row {i : Nat} {o : Oper} (hi : i ∉ fl) (ho : nthO l i = some o)
    (h : RJ c l.toArray (Exit.then (BK c l.toArray R L Q fl ft b i is) (fun _ _ _ => False)) [o] E R (L ++ G)) : SB c l.toArray Q fl ft b (i :: is) E R L G := by
  refine .inr ⟨hi, o, by rw [nthO_eq] at ho; simpa using ho, fun a w hf hs => ?_⟩
  have := upon_next (Q' := fun _ _ _ => False) (h a w hf hs) (K' := BK c l.toArray R L Q fl ft b i is) (fun _ _ h => h)
  split
  · rename_i hw
    rw [if_pos hw] at this
    exact Oper.wp_mono (fun a' w' ⟨⟨u, hu⟩, E', R', L', G', h0, h1, h2, h3, h4⟩ => ⟨u, E', R', L', G', h0, h1, hu, h2, h3, h4⟩) (upon_put this fun a' w' ⟨E', R', L', G', _, _, h1, _⟩ => h1.dfs)
  · rename_i hw
    rw [if_neg hw] at this
    obtain ⟨E', R', L', G', h0, h1, h2, h3, h4⟩ := this
    exact ⟨E', R', L', G', h0, h1, h2, h3, h4⟩
theorem rj_bk {R1 : Hp} {Qx : Exit → Act → World → Prop} {ops : Array Oper} {M G' : List Asn} {i : Nat} (hR : R.le R1) (hS : Sub M (L ++ G')) (h : SB c ops Q fl ft b is E R1 L G') :
    RJ c ops (Exit.then (BK c ops R L Q fl ft b i is) Qx) [] E R1 M :=
  rj_nil fun a w hf hs => ⟨E, R1, L, G', .inl rfl, hR, hf, hs.sub hS, h⟩
theorem rj_bk0 {R1 : Hp} {Qx : Exit → Act → World → Prop} {ops : Array Oper} {M : List Asn} (hR : R.le R1) (h : SB c ops Q fl ft b is E R1 [] M) :
    RJ c ops (Exit.then (BK c ops R L Q fl ft b b is) Qx) [] E R1 M :=
  rj_nil fun a w hf hs => ⟨E, R1, [], M, .inr ⟨rfl, rfl⟩, hR, hf, hs, h⟩
end
end V
end Go.Proofs.YtjdbigplednihaaGreat
set_option linter.unusedSimpArgs false
set_option linter.unusedVariables false
set_option maxRecDepth 100000
namespace Go.Proofs.YtjdbigplednihaaGreat
open Go.RowKit
namespace V
set_option maxHeartbeats 4000000
def u64sV (l : List Int) : List Value := l.map (Value.int .u64 ·)
theorem u64s_len (l : List Int) : (u64sV l).length = l.length := by simp [u64sV]
theorem nth_get : ∀ (l : List Value) (n : Nat), nth l n = l[n]?
  | [], n => by simp [nth]
  | x :: l, 0 => by simp [nth]
  | x :: l, n + 1 => by simp [nth, nth_get l n]
theorem u64_nth (l : List Int) (k : Nat) (z : Int) (hz : z = k) (hk : k < l.length) : nth (u64sV l) (z.toNat * 1) = some (.int .u64 (l.getD k 0)) := by
  subst hz
  rw [nth_get, u64sV, List.getElem?_map, show ((k : Nat) : Int).toNat * 1 = k by simp, List.getElem?_eq_getElem hk]
  simp [List.getD_eq_getElem?_getD, List.getElem?_eq_getElem hk]
theorem u64_set (l : List Int) (k : Nat) (z x : Int) (hz : z = k) : setNth (u64sV l) (z.toNat * 1) (.int .u64 x) = u64sV (l.set k x) := by
  subst hz
  rw [setNth_eq, show ((k : Nat) : Int).toNat * 1 = k by simp, u64sV, u64sV, List.map_set]
def swapAt (l : List Int) (j : Nat) : List Int := (l.set j (l.getD (j - 1) 0)).set (j - 1) (l.getD j 0)
theorem swapAt_perm (l : List Int) {j : Nat} (h : j < l.length) : (swapAt l j).Perm l := by
  have h1 : l.getD (j - 1) 0 = l[j - 1]'(by omega) := by simp [List.getD_eq_getElem?_getD, List.getElem?_eq_getElem (show j - 1 < l.length by omega)]
  have h2 : l.getD j 0 = l[j] := by simp [List.getD_eq_getElem?_getD, List.getElem?_eq_getElem h]
  unfold swapAt
  rw [h1, h2]
  exact List.set_set_perm h (by omega)
theorem swapAt_get (l : List Int) {j : Nat} (h : j < l.length) (x : Nat) : (swapAt l j).getD x 0 = if x = j - 1 then l.getD j 0 else if x = j then l.getD (j - 1) 0 else l.getD x 0 := by
  unfold swapAt
  simp only [List.getD_eq_getElem?_getD, List.getElem?_set, List.length_set]
  by_cases h1 : x = j - 1
  · subst h1; simp [show j - 1 < l.length by omega]
  · by_cases h2 : x = j
    · subst h2; simp [show ¬ x - 1 = x by omega, h]
      intro h3; omega
    · simp [h1, h2, show ¬ j - 1 = x by omega, show ¬ j = x by omega]
def OrdX (l : List Int) (i j : Nat) : Prop := ∀ p q, p < q → q ≤ i → q ≠ j → l.getD p 0 ≤ l.getD q 0
def Srt (l : List Int) (i : Nat) : Prop := ∀ p q, p < q → q < i → l.getD p 0 ≤ l.getD q 0
theorem ord_start {l : List Int} {i : Nat} (h : Srt l i) : OrdX l i i := fun p q h1 h2 h3 => h p q h1 (by omega)
theorem ord_step {l : List Int} {i j : Nat} (h : OrdX l i j) (hj : 0 < j) (hi : j ≤ i) (hl : i < l.length) (hlt : l.getD j 0 < l.getD (j - 1) 0) : OrdX (swapAt l j) i (j - 1) := fun p q h1 h2 h3 => by
  have g := swapAt_get l (show j < l.length by omega)
  rw [g p, g q]
  by_cases q1 : q = j
  · subst q1
    rw [if_neg h3, if_pos rfl]
    by_cases p1 : p = q - 1
    · rw [if_pos p1]; omega
    · rw [if_neg p1, if_neg (by omega)]
      exact h p (q - 1) (by omega) (by omega) (by omega)
  · rw [if_neg h3, if_neg q1]
    by_cases p1 : p = j - 1
    · rw [if_pos p1]
      exact h j q (by omega) h2 q1
    · rw [if_neg p1]
      by_cases p2 : p = j
      · rw [if_pos p2]; subst p2
        exact h (p - 1) q (by omega) h2 q1
      · rw [if_neg p2]; exact h p q h1 h2 q1
theorem ord_end {l : List Int} {i j : Nat} (h : OrdX l i j) (he : j = 0 ∨ ¬ l.getD j 0 < l.getD (j - 1) 0) : Srt l (i + 1) := fun p q h1 h2 => by
  by_cases hq : q = j
  · subst hq
    rcases he with he | he
    · omega
    · by_cases hp : p = q - 1
      · subst hp; omega
      · have := h p (q - 1) (by omega) (by omega) (by omega); omega
  · exact h p q h1 (by omega) hq
theorem nan_q {R : Hp} (a : Int) : QTri Tryz.prog 142 [.int .u64 a] R [] (.bool false) := by
  refine Tri.q2 ?_
  refine tri_of Tryz.func142 rfl Tryz.ntmps142 rfl (fun σ F Q hret hend hpan => ?_)
  try simp only [List.cons_append, List.nil_append]
  refine cj_env (eL 0 rfl eN) ?_
  refine cj_seq (fun K1 hK1 => ?_)
  refine cj_region ?_
  refine rv0 rfl rfl rfl (y_assign rfl) ?_
  refine rj_nil ?_
  refine hK1 _ _ _ ?_
  refine cj_seq (fun K2 hK2 => ?_)
  refine cj_region ?_
  refine rv0 rfl rfl rfl (y_move rfl) ?_
  refine rv0 rfl rfl rfl (y_move rfl) ?_
  refine rv0 rfl rfl rfl (y_neq rfl rfl) ?_
  refine rv0 rfl rfl rfl (y_assign rfl) ?_
  refine rj_nil ?_
  refine hK2 _ _ _ ?_
  refine cj_env (eL 2 rfl eN) ?_
  refine cj_ret ?_
  refine hret _ _ _ ?_
  apply ej_ret Tryz.results142 (.cons (rv_tmp rfl) .nil) _ [] (by (first | exact Hp.le_refl _ | assumption | exact Hp.le_trans ‹_› ‹_›)) rfl
  case hp => exact ⟨by simp [tupOf], rfl⟩
  case hS => (repeat (first|exact zR _|(apply zP;focus (repeat (first|exact zH _|apply zT)))|apply zD|exact zA _ _))
theorem less_q {R : Hp} (a b : Int) : QTri Tryz.prog 128 [.int .u64 a, .int .u64 b] R [] (.bool (decide (a < b))) := by
  refine Tri.q2 ?_
  refine tri_of Tryz.func128 rfl Tryz.ntmps128 rfl (fun σ F Q hret hend hpan => ?_)
  try simp only [List.cons_append, List.nil_append]
  refine cj_env (eL 0 rfl (eL 1 rfl eN)) ?_
  refine cj_seq (fun K1 hK1 => ?_)
  refine cj_region ?_
  refine rv0 rfl rfl rfl (y_assign rfl) ?_
  refine rj_nil ?_
  refine hK1 _ _ _ ?_
  refine cj_seq (fun K2 hK2 => ?_)
  refine cj_region ?_
  refine rv0 rfl rfl rfl (y_move rfl) ?_
  refine rv0 rfl rfl rfl (y_call Tryz.call142 rfl (nan_q _) (by (repeat (first|exact zN _|(apply zS;focus (repeat (first|exact zH _|apply zT))))))) ?_
  refine rv0 rfl rfl rfl (y_move rfl) ?_
  refine rj_skip (wn2 rfl rfl rfl rfl rfl) rfl rfl ?_
  refine rj_skip (wn2 rfl rfl rfl rfl rfl) rfl rfl ?_
  refine rj_skip (wn2 rfl rfl rfl rfl rfl) rfl rfl ?_
  refine rv0 rfl rfl rfl (y_pick_f rfl rfl) ?_
  refine rv0 rfl rfl rfl (y_move rfl) ?_
  refine rj_val (wn1 rfl rfl rfl rfl) rfl rfl (y_move rfl) ?_
  refine rj_val (wn1 rfl rfl rfl rfl) rfl rfl (y_move rfl) ?_
  refine rj_val (wn1 rfl rfl rfl rfl) rfl rfl (y_lss rfl rfl) ?_
  refine rv0 rfl rfl rfl (y_pick_f rfl rfl) ?_
  refine rv0 rfl rfl rfl (y_assign rfl) ?_
  refine rj_nil ?_
  refine hK2 _ _ _ ?_
  refine cj_env (eL 4 rfl eN) ?_
  refine cj_ret ?_
  refine hret _ _ _ ?_
  apply ej_ret Tryz.results128 (.cons (rv_tmp rfl) .nil) _ [] (by (first | exact Hp.le_refl _ | assumption | exact Hp.le_trans ‹_› ‹_›)) rfl
  case hp => exact ⟨rfl, rfl⟩
  case hS => (repeat (first|exact zR _|(apply zP;focus (repeat (first|exact zH _|apply zT)))|apply zD|exact zA _ _))
theorem insSort_t {R : Hp} (v : Value) (l0 : List Int) (hvo : v.oneCell' = true) (hn : l0.length ≤ 12) : Tri Tryz.prog 122 [v, .int .i64 0, .int .i64 (l0.length : Int)] R [slc 31 1 v l0.length (u64sV l0)]
    (fun x R' L' => ∃ l, l.Perm l0 ∧ Srt l l.length ∧ L' = [slc 31 1 v l0.length (u64sV l)]) := by
  refine tri_of Tryz.func122 rfl Tryz.ntmps122 rfl (fun σ F Q hret hend hpan => ?_)
  try simp only [List.cons_append, List.nil_append]
  refine cj_env (eL 0 rfl (eL 1 rfl (eL 2 rfl eN))) ?_
  refine cj_seq (fun K1 hK1 => ?_)
  refine cj_region ?_
  refine rv0 rfl rfl rfl (y_move rfl) ?_
  first | refine rv0 rfl rfl rfl (y_add64 rfl rfl (by (first | omega | (dsimp only; omega) | (simp; done) | (simp; omega)))) ?_ | refine rv0 rfl rfl rfl (y_add rfl rfl) ?_
  refine rv0 rfl rfl rfl (y_assign rfl) ?_
  refine rj_nil ?_
  refine hK1 _ _ _ ?_
  refine cj_block ?_
  have hll := u64s_len l0
  refine cj_env (E' := (fun (x1 : Nat × List Int) => [(0, v), (1, .int .i64 0), (2, .int .i64 (l0.length : Int)), (6, .int .i64 (x1.1 : Int))]) (1, l0)) (eC rfl (eC rfl (eC rfl (eC rfl eN)))) ?_
  refine cj_sub (M := (fun (x1 : Nat × List Int) => slc 31 1 v l0.length (u64sV x1.2) :: F) (1, l0)) (by (repeat (first|exact zR _|(apply zP;focus (repeat (first|exact zH _|apply zT)))|apply zD|exact zA _ _))) ?_
  refine cj_loop (fun (x1 : Nat × List Int) => [(0, v), (1, .int .i64 0), (2, .int .i64 (l0.length : Int)), (6, .int .i64 (x1.1 : Int))]) (fun (x1 : Nat × List Int) => R) (fun (x1 : Nat × List Int) => slc 31 1 v l0.length (u64sV x1.2) :: F) (fun (x1 : Nat × List Int) => 1 ≤ x1.1 ∧ x1.1 ≤ l0.length + 1 ∧ x1.2.Perm l0 ∧ Srt x1.2 x1.1) (fun (x1 : Nat × List Int) => l0.length + 1 - x1.1) (1, l0) (⟨by simp, by simp, .refl _, fun p q h1 h2 => by simp at h2; omega⟩) ?_
  rintro ⟨i, l⟩ ⟨hi1, hi2, hp, ho⟩
  try dsimp only
  dsimp only at hi1 hi2 hp ho
  refine cj_seq (fun K2 hK2 => ?_)
  refine cj_seq (fun K3 hK3 => ?_)
  refine cj_region ?_
  refine rv0 rfl rfl rfl (y_move rfl) ?_
  refine rv0 rfl rfl rfl (y_move rfl) ?_
  refine rv0 rfl rfl rfl (y_lss rfl rfl) ?_
  refine rj_nil ?_
  refine hK3 _ _ _ ?_
  refine cj_cond rfl (fun hc12 => ?_) (fun hc12 => ?_)
  ·try simp only [dT, dF, nT, nF, tF, fT] at hc12
   refine cj_skip ?_
   refine hK2 _ _ _ ?_
   refine cj_env (eL 0 rfl (eL 1 rfl (eL 2 rfl (eL 6 rfl eN)))) ?_
   refine cj_seq (fun K5 hK5 => ?_)
   refine cj_block ?_
   refine cj_seq (fun K6 hK6 => ?_)
   refine cj_region ?_
   refine rv0 rfl rfl rfl (y_move rfl) ?_
   refine rv0 rfl rfl rfl (y_assign rfl) ?_
   refine rj_nil ?_
   refine hK6 _ _ _ ?_
   refine cj_block ?_
   refine cj_env (E' := (fun (x2 : Nat × List Int) => [(0, v), (1, .int .i64 0), (2, .int .i64 (l0.length : Int)), (6, .int .i64 (i : Int)), (7, .int .i64 (x2.1 : Int))]) (i, l)) (eC rfl (eC rfl (eC rfl (eC rfl (eC rfl eN))))) ?_
   refine cj_sub (M := (fun (x2 : Nat × List Int) => slc 31 1 v l0.length (u64sV x2.2) :: F) (i, l)) (by (repeat (first|exact zR _|(apply zP;focus (repeat (first|exact zH _|apply zT)))|apply zD|exact zA _ _))) ?_
   refine cj_loop (fun (x2 : Nat × List Int) => [(0, v), (1, .int .i64 0), (2, .int .i64 (l0.length : Int)), (6, .int .i64 (i : Int)), (7, .int .i64 (x2.1 : Int))]) (fun (x2 : Nat × List Int) => R) (fun (x2 : Nat × List Int) => slc 31 1 v l0.length (u64sV x2.2) :: F) (fun (x2 : Nat × List Int) => x2.1 ≤ i ∧ x2.2.Perm l0 ∧ OrdX x2.2 i x2.1) (fun (x2 : Nat × List Int) => x2.1) (i, l) (⟨by simp, hp, ord_start ho⟩) ?_
   rintro ⟨j, l2⟩ ⟨hj, hp2, ho2⟩
   try dsimp only
   dsimp only at hj hp2 ho2
   refine cj_seq (fun K7 hK7 => ?_)
   refine cj_seq (fun K8 hK8 => ?_)
   have hi3 : i < l0.length := by (try simp at hc12); omega
   have hl2 := hp2.length_eq
   have hjl : j < l2.length := by omega
   refine cj_draw (by kernel_rfl) (by kernel_rfl) ?_
   refine qj_val (wn0 rfl) rfl rfl (y_move rfl) ?_
   refine qj_val (wn0 rfl) rfl rfl (y_move rfl) ?_
   refine qj_val (wn0 rfl) rfl rfl (y_gtr rfl rfl) ?_
   refine qj_val (wn0 rfl) rfl rfl (y_move rfl) ?_
   refine qj_part 19 rfl (fun hg19 => ?_) (fun hg19 => ?_)
   ·have hj0 : 0 < j := by (try simp at hg19); omega
    refine qj_val (wn1 rfl rfl rfl rfl) rfl rfl (y_move rfl) ?_
    refine qj_val (wn1 rfl rfl rfl rfl) rfl rfl (y_move rfl) ?_
    first | refine qj_val (wn1 rfl rfl rfl rfl) rfl rfl (y_indexAddr Tryz.underlying35 Tryz.sizeOf31 rfl rfl (by (first | omega | (dsimp only; omega) | (simp; done) | (simp; omega)))) ?_ | refine qj_val (wn1 rfl rfl rfl rfl) rfl rfl (y_index_slc Tryz.underlying35 Tryz.sizeOf31 rfl rfl (by (repeat (first|exact zH _|apply zT));done) (by (first | omega | (dsimp only; omega) | (simp; done) | (simp; omega)))) ?_
    refine qj_val (wn1 rfl rfl rfl rfl) rfl rfl ((y_load_slc ⟨Tryz.isAgg31, Tryz.sizeOf31⟩ rfl (by (repeat (first|exact zH _|apply zT));done) (u64_nth l2 j _ rfl hjl))) ?_
    refine qj_val (wn1 rfl rfl rfl rfl) rfl rfl (y_move rfl) ?_
    refine qj_val (wn1 rfl rfl rfl rfl) rfl rfl (y_move rfl) ?_
    refine qj_val (wn1 rfl rfl rfl rfl) rfl rfl ((Yld.to (u := .int .i64 ((j - 1 : Nat) : Int)) (y_sub64 rfl rfl (by omega)) (by congr 1; omega))) ?_
    first | refine qj_val (wn1 rfl rfl rfl rfl) rfl rfl (y_indexAddr Tryz.underlying35 Tryz.sizeOf31 rfl rfl (by (first | omega | (dsimp only; omega) | (simp; done) | (simp; omega)))) ?_ | refine qj_val (wn1 rfl rfl rfl rfl) rfl rfl (y_index_slc Tryz.underlying35 Tryz.sizeOf31 rfl rfl (by (repeat (first|exact zH _|apply zT));done) (by (first | omega | (dsimp only; omega) | (simp; done) | (simp; omega)))) ?_
    refine qj_val (wn1 rfl rfl rfl rfl) rfl rfl ((y_load_slc ⟨Tryz.isAgg31, Tryz.sizeOf31⟩ rfl (by (repeat (first|exact zH _|apply zT));done) (u64_nth l2 (j - 1) _ rfl (by omega)))) ?_
    refine qj_val (wn1 rfl rfl rfl rfl) rfl rfl (y_call Tryz.call128 rfl (less_q _ _) (by (repeat (first|exact zN _|(apply zS;focus (repeat (first|exact zH _|apply zT))))))) ?_
    refine qj_val (wn0 rfl) rfl rfl (y_pick_t rfl rfl) ?_
    refine qj_nil ?_
    refine hK8 _ _ _ ?_
    refine cj_env (eL 0 rfl (eL 1 rfl (eL 2 rfl (eL 6 rfl (eL 7 rfl (eL 30 rfl eN)))))) ?_
    refine cj_cond rfl (fun hc30 => ?_) (fun hc30 => ?_)
    ·first | have hlt : l2.getD j 0 < l2.getD (j - 1) 0 := by simpa using hc30 | skip
     refine cj_skip ?_
     refine hK7 _ _ _ ?_
     refine cj_seq (fun K10 hK10 => ?_)
     refine cj_block ?_
     refine cj_brk (L := [slc 31 1 v l0.length (u64sV l2)]) [0, 1, 2, 3, 4, 5, 6, 7, 8, 9, 10, 11, 12, 13, 14] [0, 1, 2, 3, 4, 5, 6, 7, 10, 11] 15 [0, 1, 2, 3, 4, 5, 6, 7, 8, 9, 10, 11, 12, 13, 14, 15, 16, 17] _ (by (repeat (first|exact zR _|(apply zP;focus (repeat (first|exact zH _|apply zT)))|apply zD|exact zA _ _))) (by kernel_rfl) (by kernel_rfl) (by kernel_rfl) ?_
     refine sb_pure (by decide) rfl rfl rfl (wn0 rfl) (fun R1 G => (y_move rfl)) ?_
     refine sb_pure (by decide) rfl rfl rfl (wn0 rfl) (fun R1 G => (y_move rfl)) ?_
     refine sb_pure (by decide) rfl rfl rfl (wn0 rfl) (fun R1 G => (y_move rfl)) ?_
     refine sb_pure (by decide) rfl rfl rfl (wn0 rfl) (fun R1 G => (y_move rfl)) ?_
     refine sb_pure (by decide) rfl rfl rfl (wn0 rfl) (fun R1 G => (Yld.to (u := .int .i64 ((j - 1 : Nat) : Int)) (y_sub64 rfl rfl (by omega)) (by congr 1; omega))) ?_
     refine sb_pure (by decide) rfl rfl rfl (wn0 rfl) (fun R1 G => (y_move rfl)) ?_
     refine sb_pure (by decide) rfl rfl rfl (wn0 rfl) (fun R1 G => (y_move rfl)) ?_
     refine sb_pure (by decide) rfl rfl rfl (wn0 rfl) (fun R1 G => (Yld.to (u := .int .i64 ((j - 1 : Nat) : Int)) (y_sub64 rfl rfl (by omega)) (by congr 1; omega))) ?_
     first | refine sb_val (by decide) (by decide) rfl rfl rfl (wn0 rfl) (fun R1 hR1 G => (y_indexAddr Tryz.underlying35 Tryz.sizeOf31 rfl rfl (by (first | omega | (dsimp only; omega) | (simp; done) | (simp; omega))))) ?_ | refine sb_val (by decide) (by decide) rfl rfl rfl (wn0 rfl) (fun R1 hR1 G => (y_index_slc Tryz.underlying35 Tryz.sizeOf31 rfl rfl (by (repeat (first|exact zH _|apply zT));done) (by (first | omega | (dsimp only; omega) | (simp; done) | (simp; omega))))) ?_
     refine sb_val (by decide) (by decide) rfl rfl rfl (wn0 rfl) (fun R1 hR1 G => (y_load_slc ⟨Tryz.isAgg31, Tryz.sizeOf31⟩ rfl (by (repeat (first|exact zH _|apply zT));done) (u64_nth l2 (j - 1) _ rfl (by omega)))) ?_
     refine sb_pure (by decide) rfl rfl rfl (wn0 rfl) (fun R1 G => (y_move rfl)) ?_
     refine sb_pure (by decide) rfl rfl rfl (wn0 rfl) (fun R1 G => (y_move rfl)) ?_
     first | refine sb_val (by decide) (by decide) rfl rfl rfl (wn0 rfl) (fun R1 hR1 G => (y_indexAddr Tryz.underlying35 Tryz.sizeOf31 rfl rfl (by (first | omega | (dsimp only; omega) | (simp; done) | (simp; omega))))) ?_ | refine sb_val (by decide) (by decide) rfl rfl rfl (wn0 rfl) (fun R1 hR1 G => (y_index_slc Tryz.underlying35 Tryz.sizeOf31 rfl rfl (by (repeat (first|exact zH _|apply zT));done) (by (first | omega | (dsimp only; omega) | (simp; done) | (simp; omega))))) ?_
     refine sb_val (by decide) (by decide) rfl rfl rfl (wn0 rfl) (fun R1 hR1 G => (y_load_slc ⟨Tryz.isAgg31, Tryz.sizeOf31⟩ rfl (by (repeat (first|exact zH _|apply zT));done) (u64_nth l2 j _ rfl hjl))) ?_
     first | refine sb_val (by decide) (by decide) rfl rfl rfl (wn0 rfl) (fun R1 hR1 G => (y_indexAddr Tryz.underlying35 Tryz.sizeOf31 rfl rfl (by (first | omega | (dsimp only; omega) | (simp; done) | (simp; omega))))) ?_ | refine sb_val (by decide) (by decide) rfl rfl rfl (wn0 rfl) (fun R1 hR1 G => (y_index_slc Tryz.underlying35 Tryz.sizeOf31 rfl rfl (by (repeat (first|exact zH _|apply zT));done) (by (first | omega | (dsimp only; omega) | (simp; done) | (simp; omega))))) ?_
     refine sb_row (by decide) rfl ?_
     try simp only [List.cons_append, List.nil_append, List.append_nil]
     refine rj_store_slc (ys := u64sV (l2.set j (l2.getD (j - 1) 0))) ⟨Tryz.isAgg31, Tryz.sizeOf31⟩ (wn0 rfl) rfl rfl rfl (by (repeat (first|exact zH _|apply zT));done) (by rw [u64s_len]; simp; omega) (u64_set _ _ _ _ rfl) (by omega) ?_
     refine rj_bk0 (by (first | exact Hp.le_refl _ | assumption | exact Hp.le_trans ‹_› ‹_›)) ?_
     refine sb_row (by decide) rfl ?_
     try simp only [List.cons_append, List.nil_append, List.append_nil]
     first | refine rv0 rfl rfl rfl (y_indexAddr Tryz.underlying35 Tryz.sizeOf31 rfl rfl (by (first | omega | (dsimp only; omega) | (simp; done) | (simp; omega)))) ?_ | refine rv0 rfl rfl rfl (y_index_slc Tryz.underlying35 Tryz.sizeOf31 rfl rfl (by (repeat (first|exact zH _|apply zT));done) (by (first | omega | (dsimp only; omega) | (simp; done) | (simp; omega)))) ?_
     refine rj_bk (by (first | exact Hp.le_refl _ | assumption | exact Hp.le_trans ‹_› ‹_›)) (Sub.refl _) ?_
     refine sb_row (by decide) rfl ?_
     try simp only [List.cons_append, List.nil_append, List.append_nil]
     refine rj_store_slc (ys := u64sV (swapAt l2 j)) ⟨Tryz.isAgg31, Tryz.sizeOf31⟩ (wn0 rfl) rfl rfl rfl (by (repeat (first|exact zH _|apply zT));done) (by rw [u64s_len]; simp; omega) (u64_set _ _ _ _ rfl) (by omega) ?_
     refine rj_bk (by (first | exact Hp.le_refl _ | assumption | exact Hp.le_trans ‹_› ‹_›)) (Sub.refl _) ?_
     refine sb_nil ?_
     try simp only [List.cons_append, List.nil_append, List.append_nil]
     refine hK10 _ _ _ ?_
     refine cj_env (eL 0 rfl (eL 1 rfl (eL 2 rfl (eL 6 rfl (eL 7 rfl eN))))) ?_
     refine cj_region ?_
     refine rv0 rfl rfl rfl (y_move rfl) ?_
     refine rv0 rfl rfl rfl ((Yld.to (u := .int .i64 ((j - 1 : Nat) : Int)) (y_sub64 rfl rfl (by omega)) (by congr 1; omega))) ?_
     refine rv0 rfl rfl rfl (y_assign rfl) ?_
     refine rj_nil ?_
     refine ej_on (q' := roundK _ _ _ _ _ _ _) rfl ?_
     refine ej_round ((j - 1, swapAt l2 j)) (⟨by dsimp only; omega, (swapAt_perm l2 hjl).trans hp2, ord_step ho2 hj0 hj (by omega) hlt⟩) (by dsimp only; omega) (eC rfl (eC rfl (eC rfl (eC rfl (eC rfl eN))))) rfl (by (repeat (first|exact zR _|(apply zP;focus (repeat (first|exact zH _|apply zT)))|apply zD|exact zA _ _)))
    ·first | have he2 : j = 0 ∨ ¬ l2.getD j 0 < l2.getD (j - 1) 0 := .inr (by simpa using hc30) | skip
     refine cj_exit ?_
     refine hK5 _ _ _ ?_
     refine cj_region ?_
     refine rv0 rfl rfl rfl (y_move rfl) ?_
     first | refine rv0 rfl rfl rfl (y_add64 rfl rfl (by (first | omega | (dsimp only; omega) | (simp; done) | (simp; omega)))) ?_ | refine rv0 rfl rfl rfl (y_add rfl rfl) ?_
     refine rv0 rfl rfl rfl (y_assign rfl) ?_
     refine rj_nil ?_
     refine ej_on (q' := roundK _ _ _ _ _ _ _) rfl ?_
     refine ej_round ((i + 1, l2)) (⟨by dsimp only; omega, by dsimp only; omega, hp2, ord_end ho2 he2⟩) (by dsimp only; omega) (eC rfl (eC rfl (eC rfl (eC rfl eN)))) rfl (by (repeat (first|exact zR _|(apply zP;focus (repeat (first|exact zH _|apply zT)))|apply zD|exact zA _ _)))
   ·have he2 : j = 0 ∨ ¬ l2.getD j 0 < l2.getD (j - 1) 0 := .inl (by (try simp at hg19); omega)
    refine qj_skip (wn2 rfl rfl rfl rfl rfl) rfl rfl ?_
    refine qj_skip (wn2 rfl rfl rfl rfl rfl) rfl rfl ?_
    refine qj_skip (wn2 rfl rfl rfl rfl rfl) rfl rfl ?_
    refine qj_skip (wn2 rfl rfl rfl rfl rfl) rfl rfl ?_
    refine qj_skip (wn2 rfl rfl rfl rfl rfl) rfl rfl ?_
    refine qj_skip (wn2 rfl rfl rfl rfl rfl) rfl rfl ?_
    refine qj_skip (wn2 rfl rfl rfl rfl rfl) rfl rfl ?_
    refine qj_skip (wn2 rfl rfl rfl rfl rfl) rfl rfl ?_
    refine qj_skip (wn2 rfl rfl rfl rfl rfl) rfl rfl ?_
    refine qj_skip (wn2 rfl rfl rfl rfl rfl) rfl rfl ?_
    refine qj_val (wn0 rfl) rfl rfl (y_pick_f rfl rfl) ?_
    refine qj_nil ?_
    refine hK8 _ _ _ ?_
    refine cj_env (eL 0 rfl (eL 1 rfl (eL 2 rfl (eL 6 rfl (eL 7 rfl (eL 30 rfl eN)))))) ?_
    refine cj_cond_f rfl ?_
    refine cj_exit ?_
    refine hK5 _ _ _ ?_
    refine cj_region ?_
    refine rv0 rfl rfl rfl (y_move rfl) ?_
    first | refine rv0 rfl rfl rfl (y_add64 rfl rfl (by (first | omega | (dsimp only; omega) | (simp; done) | (simp; omega)))) ?_ | refine rv0 rfl rfl rfl (y_add rfl rfl) ?_
    refine rv0 rfl rfl rfl (y_assign rfl) ?_
    refine rj_nil ?_
    refine ej_on (q' := roundK _ _ _ _ _ _ _) rfl ?_
    refine ej_round ((i + 1, l2)) (⟨by dsimp only; omega, by dsimp only; omega, hp2, ord_end ho2 he2⟩) (by dsimp only; omega) (eC rfl (eC rfl (eC rfl (eC rfl eN)))) rfl (by (repeat (first|exact zR _|(apply zP;focus (repeat (first|exact zH _|apply zT)))|apply zD|exact zA _ _)))
  ·try simp only [dT, dF, nT, nF, tF, fT] at hc12
   refine cj_exit ?_
   refine hend _ _ _ ?_
   apply ej_end Tryz.results122 .nil _ [slc 31 1 v l0.length (u64sV l)] (Hp.le_refl _) rfl
   case hp => exact ⟨l, hp, fun p q h1 h2 => ho p q h1 (by (try simp at hc12); have := hp.length_eq; omega), rfl⟩
   case hS => (repeat (first|exact zR _|(apply zP;focus (repeat (first|exact zH _|apply zT)))|apply zD|exact zA _ _))
theorem pdq_t {R : Hp} (v : Value) (l0 : List Int) (k : Int) (hvo : v.oneCell' = true) (hn : l0.length ≤ 12) : Tri Tryz.prog 115 [v, .int .i64 0, .int .i64 (l0.length : Int), .int .i64 k] R [slc 31 1 v l0.length (u64sV l0)]
    (fun x R' L' => ∃ l, l.Perm l0 ∧ Srt l l.length ∧ L' = [slc 31 1 v l0.length (u64sV l)]) := by
  refine tri_of Tryz.func115 rfl Tryz.ntmps115 rfl (fun σ F Q hret hend hpan => ?_)
  try simp only [List.cons_append, List.nil_append]
  refine cj_env (eL 0 rfl (eL 1 rfl (eL 2 rfl (eL 3 rfl eN)))) ?_
  refine cj_seq (fun K1 hK1 => ?_)
  refine cj_region ?_
  refine rv0 rfl rfl rfl (y_assign rfl) ?_
  refine rj_nil ?_
  refine hK1 _ _ _ ?_
  refine cj_seq (fun K2 hK2 => ?_)
  refine cj_region ?_
  refine rv0 rfl rfl rfl (y_assign rfl) ?_
  refine rj_nil ?_
  refine hK2 _ _ _ ?_
  refine cj_block ?_
  refine cj_env (E' := (fun (x1 : Nat) => [(0, v), (1, .int .i64 0), (2, .int .i64 (l0.length : Int))]) 0) (eC rfl (eC rfl (eC rfl eN))) ?_
  refine cj_sub (M := (fun (x1 : Nat) => slc 31 1 v l0.length (u64sV l0) :: F) 0) (by (repeat (first|exact zR _|(apply zP;focus (repeat (first|exact zH _|apply zT)))|apply zD|exact zA _ _))) ?_
  refine cj_loop (fun (x1 : Nat) => [(0, v), (1, .int .i64 0), (2, .int .i64 (l0.length : Int))]) (fun (x1 : Nat) => R) (fun (x1 : Nat) => slc 31 1 v l0.length (u64sV l0) :: F) (fun (x1 : Nat) => True) (fun (x1 : Nat) => x1) 0 (trivial) ?_
  rintro x hI2
  try dsimp only
  refine cj_block ?_
  refine cj_seq (fun K3 hK3 => ?_)
  refine cj_region ?_
  refine rv0 rfl rfl rfl (y_move rfl) ?_
  refine rv0 rfl rfl rfl (y_move rfl) ?_
  first | refine rv0 rfl rfl rfl (y_sub64 rfl rfl (by (first | omega | (dsimp only; omega) | (simp; done) | (simp; omega)))) ?_ | refine rv0 rfl rfl rfl (y_sub rfl rfl) ?_
  refine rv0 rfl rfl rfl (y_assign rfl) ?_
  refine rj_nil ?_
  refine hK3 _ _ _ ?_
  refine cj_env (eL 0 rfl (eL 1 rfl (eL 2 rfl (eL 10 rfl eN)))) ?_
  refine cj_seq (fun K4 hK4 => ?_)
  refine cj_seq (fun K5 hK5 => ?_)
  refine cj_region ?_
  refine rv0 rfl rfl rfl (y_move rfl) ?_
  refine rv0 rfl rfl rfl ((Yld.to (u := .bool true) (y_leq rfl rfl) (by rw [decide_eq_true (by omega)]))) ?_
  refine rj_nil ?_
  refine hK5 _ _ _ ?_
  refine cj_cond_t rfl ?_
  refine cj_seq (fun K6 hK6 => ?_)
  refine cj_region ?_
  refine rv0 rfl rfl rfl (y_move rfl) ?_
  refine rv0 rfl rfl rfl (y_move rfl) ?_
  refine rv0 rfl rfl rfl (y_move rfl) ?_
  refine rj_call (wn0 rfl) rfl Tryz.call122 rfl (insSort_t v l0 hvo hn) (by (repeat (first|exact zN _|(apply zS;focus (repeat (first|exact zH _|apply zT)))))) (fun _ _ _ _ h => h.elim) ?_
  rintro r R2 L' hR2 ⟨l, hp, hs, rfl⟩
  try simp only [List.cons_append, List.nil_append]
  refine rj_nil ?_
  refine hK6 _ _ _ ?_
  refine cj_env eN ?_
  refine cj_ret ?_
  refine hret _ _ _ ?_
  apply ej_ret Tryz.results115 .nil _ [slc 31 1 v l0.length (u64sV l)] hR2 rfl
  case hp => exact ⟨l, hp, hs, rfl⟩
  case hS => (repeat (first|exact zR _|(apply zP;focus (repeat (first|exact zH _|apply zT)))|apply zD|exact zA _ _))
theorem blen_q {R : Hp} (n : Nat) (hn : n < 18446744073709551616) : QTri Tryz.prog 116 [.int .u64 (n : Int)] R [] (.int .i64 (bitLen n : Int)) := by
  refine Tri.q2 ?_
  refine tri_of Tryz.func116 rfl Tryz.ntmps116 rfl (fun σ F Q hret hend hpan => ?_)
  try simp only [List.cons_append, List.nil_append]
  refine cj_env (eL 0 rfl eN) ?_
  refine cj_seq (fun K1 hK1 => ?_)
  refine cj_region ?_
  refine rv0 rfl rfl rfl (y_assign rfl) ?_
  refine rj_nil ?_
  refine hK1 _ _ _ ?_
  refine cj_seq (fun K2 hK2 => ?_)
  refine cj_cond_f rfl ?_
  refine cj_skip ?_
  refine hK2 _ _ _ ?_
  refine cj_seq (fun K3 hK3 => ?_)
  refine cj_region ?_
  refine rv0 rfl rfl rfl (y_move rfl) ?_
  refine rv0 rfl rfl rfl (y_call Tryz.call132 rfl (len64_q n hn) (by (repeat (first|exact zN _|(apply zS;focus (repeat (first|exact zH _|apply zT))))))) ?_
  refine rv0 rfl rfl rfl (y_assign rfl) ?_
  refine rj_nil ?_
  refine hK3 _ _ _ ?_
  refine cj_env (eL 2 rfl eN) ?_
  refine cj_ret ?_
  refine hret _ _ _ ?_
  apply ej_ret Tryz.results116 (.cons (rv_tmp rfl) .nil) _ [] (by (first | exact Hp.le_refl _ | assumption | exact Hp.le_trans ‹_› ‹_›)) rfl
  case hp => exact ⟨rfl, rfl⟩
  case hS => (repeat (first|exact zR _|(apply zP;focus (repeat (first|exact zH _|apply zT)))|apply zD|exact zA _ _))
theorem sort_t {R : Hp} (v : Value) (l0 : List Int) (hvo : v.oneCell' = true) (hn : l0.length ≤ 12) : Tri Tryz.prog 102 [v] R [slc 31 1 v l0.length (u64sV l0)]
    (fun x R' L' => ∃ l, l.Perm l0 ∧ Srt l l.length ∧ L' = [slc 31 1 v l0.length (u64sV l)]) := by
  refine tri_of Tryz.func102 rfl Tryz.ntmps102 rfl (fun σ F Q hret hend hpan => ?_)
  try simp only [List.cons_append, List.nil_append]
  refine cj_env (eL 0 rfl eN) ?_
  refine cj_seq (fun K1 hK1 => ?_)
  refine cj_region ?_
  refine rv0 rfl rfl rfl (y_move rfl) ?_
  first | refine rv0 rfl rfl rfl (y_len_sl Tryz.underlying35 rfl) ?_ | refine rv0 rfl rfl rfl (y_len_slc Tryz.underlying35 rfl (by (repeat (first|exact zH _|apply zT));done)) ?_
  refine rv0 rfl rfl rfl (y_assign rfl) ?_
  refine rj_nil ?_
  refine hK1 _ _ _ ?_
  refine cj_region ?_
  refine rv0 rfl rfl rfl (y_move rfl) ?_
  refine rv0 rfl rfl rfl (y_move rfl) ?_
  refine rv0 rfl rfl rfl (y_move rfl) ?_
  refine rv0 rfl rfl rfl ((y_conv_in Tryz.underlying3 Tryz.underlying103 rfl (by (simp only [IntKind.min, IntKind.max, IntKind.signed, IntKind.bits, Bool.false_eq_true, ite_false, ite_true]; omega)))) ?_
  refine rv0 rfl rfl rfl (y_call Tryz.call116 rfl (blen_q l0.length (by omega)) (by (repeat (first|exact zN _|(apply zS;focus (repeat (first|exact zH _|apply zT))))))) ?_
  refine rj_call (wn0 rfl) rfl Tryz.call115 rfl (pdq_t v l0 _ hvo hn) (by (repeat (first|exact zN _|(apply zS;focus (repeat (first|exact zH _|apply zT)))))) (fun _ _ _ _ h => h.elim) ?_
  rintro r R2 L' hR2 ⟨l, hp, hs, rfl⟩
  try simp only [List.cons_append, List.nil_append]
  refine rj_nil ?_
  refine hend _ _ _ ?_
  apply ej_end Tryz.results102 .nil _ [slc 31 1 v l0.length (u64sV l)] hR2 rfl
  case hp => exact ⟨l, hp, hs, rfl⟩
  case hS => (repeat (first|exact zR _|(apply zP;focus (repeat (first|exact zH _|apply zT)))|apply zD|exact zA _ _))
end V
end Go.Proofs.YtjdbigplednihaaGreat
set_option linter.unusedSimpArgs false
set_option linter.unusedVariables false
namespace Go.Proofs.YtjdbigplednihaaGreat
open Go.RowKit
namespace V
set_option maxHeartbeats 4000000
structure ND where
  id : Nat
  n : Nat
  g : LG
  role : Int
  leader : Int
  commit : Int
  patience : Int
  votes : List Int
  peers : List (Int × Int)
  out : List Msg
  down : Bool
abbrev NS := ND × DK
def ND.start (id n : Nat) (g : LG) : ND := ⟨id, n, g, 0, -1, g.base, 0, [], [], [], false⟩
def ND.send (x : ND) (m : Msg) : ND := { x with out := x.out ++ [{ m with frm := x.id, term := x.g.term }] }
def ND.tAt (x : ND) (i : Int) : Int := (x.g.termAt i).getD 0
def ND.others (x : ND) : List Nat := (List.range x.n).filter (fun i => i != x.id)
def ND.nxt (x : ND) (to : Nat) : Int := (x.peers.getD to (0, 0)).1
def ND.mat (x : ND) (to : Nat) : Int := (x.peers.getD to (0, 0)).2
def ND.feedMsg (x : ND) (to : Nat) : Msg :=
  if x.nxt to ≤ x.g.base then { Msg.zero with kind := 4, to := to, index := x.g.base, logTerm := x.g.baseT, state := x.g.state }
  else { Msg.zero with kind := 2, to := to, index := x.nxt to - 1, logTerm := x.tAt (x.nxt to - 1), commit := x.commit, es := (x.g.all.drop (x.nxt to - x.g.base - 1).toNat).take 8 }
def ND.feed (x : ND) (to : Nat) : ND := x.send (x.feedMsg to)
def ND.feedAll (x : ND) : ND := x.others.foldl ND.feed x
def ND.reach (x : ND) : List Int := x.g.last :: x.others.map x.mat
def ND.mid (x : ND) : Int := (x.reach.mergeSort (fun a b => decide (a ≤ b))).getD ((x.n - 1) / 2) 0
def ND.count (x : ND) : ND := if x.mid > x.commit ∧ x.tAt x.mid = x.g.term then { x with commit := x.mid } else x
def bindN (r : Bool × NS) (k : NS → Bool × NS) : Bool × NS := if r.1 = true then k r.2 else r
def mustN (s : NS) (r : Int × LG × DK) : Bool × NS := if r.1 = 0 then (true, ({ s.1 with g := r.2.1 }, r.2.2)) else (false, ({ s.1 with g := r.2.1, down := true }, r.2.2))
def entryN (s : NS) (cmd : Bs) : Bool × NS := bindN (mustN s (s.1.g.addD s.2 s.1.g.last [(s.1.g.term, cmd)])) fun s => (true, (s.1.count.feedAll, s.2))
def ND.wins (x : ND) : ND := { x with role := 2, leader := x.id, patience := 0, peers := List.replicate x.n (x.g.last + 1, 0) }
def winN (s : NS) : Bool × NS := entryN (s.1.wins, s.2) []
def ND.stands (x : ND) : ND := { x with role := 1, leader := -1, patience := 0, votes := [(x.id : Int)] }
def ND.askMsg (x : ND) (to : Nat) : Msg := { Msg.zero with kind := 0, to := to, index := x.g.last, logTerm := x.tAt x.g.last }
def ND.ask (x : ND) (to : Nat) : ND := x.send (x.askMsg to)
def ND.askAll (x : ND) : ND := x.others.foldl ND.ask x
def standN (s : NS) : Bool × NS := bindN (mustN s (s.1.g.setTermD s.2 (s.1.g.term + 1) s.1.id)) fun s =>
  if s.1.n = 1 then winN (s.1.stands, s.2) else (true, (s.1.stands.askAll, s.2))
def limitI (id : Nat) (t : Int) : Int := 10 + (7 * (id : Int) + 3 * t) % 11
def tickN (s : NS) : Bool × NS :=
  if s.1.role = 2 then if s.1.patience + 1 ≥ 3 then (true, ({ s.1 with patience := 0 }.feedAll, s.2)) else (true, ({ s.1 with patience := s.1.patience + 1 }, s.2))
  else if s.1.patience + 1 ≥ limitI s.1.id s.1.g.term then standN ({ s.1 with patience := s.1.patience + 1 }, s.2) else (true, ({ s.1 with patience := s.1.patience + 1 }, s.2))
def ND.good (x : ND) (m : Msg) : Bool := decide (m.logTerm > x.tAt x.g.last) || (decide (m.logTerm = x.tAt x.g.last) && decide (m.index ≥ x.g.last))
def ND.grants (x : ND) (m : Msg) : Bool := decide (m.term = x.g.term) && decide (x.role = 0) && (decide (x.g.vote = -1) || decide (x.g.vote = m.frm)) && x.good m
def ND.voteMsg (m : Msg) (ok : Bool) : Msg := { Msg.zero with kind := 1, to := m.frm, ok := ok }
def askedN (s : NS) (m : Msg) : Bool × NS :=
  if s.1.grants m = true then bindN (mustN s (s.1.g.setTermD s.2 s.1.g.term m.frm)) fun s => (true, ({ s.1 with patience := 0 }.send (ND.voteMsg m true), s.2))
  else (true, (s.1.send (ND.voteMsg m false), s.2))
def setAdd (l : List Int) (i : Int) : List Int := if i ∈ l then l else l ++ [i]
def votedN (s : NS) (m : Msg) : Bool × NS :=
  if ¬ s.1.role = 1 ∨ ¬ m.term = s.1.g.term ∨ m.ok = false then (true, s)
  else if 2 * ((setAdd s.1.votes m.frm).length : Int) > s.1.n then winN ({ s.1 with votes := setAdd s.1.votes m.frm }, s.2)
  else (true, ({ s.1 with votes := setAdd s.1.votes m.frm }, s.2))
def ND.answer (x : ND) (m : Msg) (ok : Bool) (index : Int) : ND := x.send { Msg.zero with kind := 3, to := m.frm, ok := ok, index := index }
def ND.fits (g : LG) : List Ent → Int → Option (Int × List Ent)
  | [], _ => none
  | e :: l, i => if (g.at i).map (·.1) = some e.1 then ND.fits g l (i + 1) else some (i, e :: l)
def ND.cutM (x : ND) (m : Msg) : Int × List Ent := if m.index < x.g.base then (x.g.base, m.es.drop (x.g.base - m.index).toNat) else (m.index, m.es)
def ND.commits (x : ND) (m : Msg) (last : Int) : ND := { x with commit := max x.commit (min m.commit last) }
def addN (s : NS) (m : Msg) : Bool × NS :=
  if m.index < s.1.g.base ∧ (m.es.length : Int) < s.1.g.base - m.index then (true, (s.1.answer m true s.1.g.base, s.2))
  else if ¬ m.index < s.1.g.base ∧ ¬ s.1.g.termAt m.index = some m.logTerm then (true, (s.1.answer m false (min s.1.g.last (max m.index 1 - 1)), s.2))
  else
    let c := s.1.cutM m
    let last := c.1 + c.2.length
    match ND.fits s.1.g c.2 (c.1 + 1) with
    | none => (true, ((s.1.commits m last).answer m true last, s.2))
    | some (i, l) => if i ≤ s.1.commit then (true, s)
      else bindN (mustN s (s.1.g.addD s.2 (i - 1) l)) fun s => (true, ((s.1.commits m last).answer m true last, s.2))
def ND.follows (x : ND) (m : Msg) : ND := { x with role := 0, leader := m.frm, patience := 0 }
def snapN (s : NS) (m : Msg) : Bool × NS :=
  if m.index > s.1.commit then bindN (mustN s (s.1.g.instD s.2 m.index m.logTerm m.state)) fun s => (true, ({ s.1 with commit := m.index }.answer m true m.index, s.2))
  else (true, (s.1.answer m true s.1.commit, s.2))
def fedN (s : NS) (m : Msg) : Bool × NS :=
  if m.term < s.1.g.term then (true, (s.1.answer m false 0, s.2)) else if s.1.role = 2 then (true, s)
  else if m.kind = 2 then addN (s.1.follows m, s.2) m else snapN (s.1.follows m, s.2) m
def ND.setPeer (x : ND) (to : Nat) (p : Int × Int) : ND := { x with peers := x.peers.set to p }
def heardN (s : NS) (m : Msg) : Bool × NS :=
  if ¬ s.1.role = 2 ∨ ¬ m.term = s.1.g.term then (true, s)
  else
    let to := m.frm.toNat
    if m.ok = false then (true, ((s.1.setPeer to (max (min (s.1.nxt to - 1) (m.index + 1)) (s.1.mat to + 1), s.1.mat to)).feed to, s.2))
    else
      let k := max (s.1.mat to) (min m.index s.1.g.last)
      let x := (s.1.setPeer to (k + 1, k)).count
      if k + 1 ≤ x.g.last then (true, (x.feed to, s.2)) else (true, (x, s.2))
def ND.newTerm (x : ND) : ND := { x with role := 0, leader := -1 }
def kindN (s : NS) (m : Msg) : Bool × NS :=
  if m.kind = 0 then askedN s m else if m.kind = 1 then votedN s m else if m.kind = 2 ∨ m.kind = 4 then fedN s m else if m.kind = 3 then heardN s m else (true, s)
def receiveN (s : NS) (m : Msg) : Bool × NS :=
  if ¬ m.to = s.1.id ∨ m.frm = s.1.id ∨ m.frm < 0 ∨ m.frm ≥ s.1.n then (true, s)
  else if m.term > s.1.g.term then bindN (mustN s (s.1.g.setTermD s.2 m.term (-1))) fun s => kindN (s.1.newTerm, s.2) m
  else kindN s m
def downS (s : NS) : Bool := s.1.down || (s.1.g.down || s.2.down)
def runN (s : NS) (f : NS → Bool × NS) : List Msg × NS :=
  if downS s = true then ([], s) else if (f ({ s.1 with out := [] }, s.2)).1 = true then ((f ({ s.1 with out := [] }, s.2)).2.1.out, (f ({ s.1 with out := [] }, s.2)).2) else ([], (f ({ s.1 with out := [] }, s.2)).2)
end V
end Go.Proofs.YtjdbigplednihaaGreat
set_option linter.unusedSimpArgs false
set_option linter.unusedVariables false
namespace Go.Proofs.YtjdbigplednihaaGreat
open Go.RowKit
namespace V
def mapG (es : Array MapEntry) (clock : Nat) (ik : IntKind) (f : Int → Option Value) (n : Nat) : Prop :=
  MapKept.Stamped es clock ∧ (∀ x ∈ es.toList, ∃ a, x.key = .int ik a) ∧ (∀ a v, f a = some v ↔ ∃ x ∈ es.toList, x.key = .int ik a ∧ x.val = v) ∧ es.size = n
def mapF (b : Nat) (ik : IntKind) (f : Int → Option Value) (n : Nat) : Asn := fun h => ∃ es clock, h b = some (.map es clock) ∧ mapG es clock ik f n
def objA (b : Nat) (o : Obj) : Asn := fun h => h b = some o
def fset (f : Int → Option Value) (a : Int) (v : Value) : Int → Option Value := fun k => if k = a then some v else f k
theorem mapG_empty (clock : Nat) (ik : IntKind) : mapG #[] clock ik (fun _ => none) 0 := ⟨MapKept.stamped_empty clock, by simp, by simp, rfl⟩
theorem mapG.isKey {es : Array MapEntry} {clock : Nat} {ik : IntKind} {f : Int → Option Value} {n : Nat} (h : mapG es clock ik f n) : ∀ x ∈ es.toList, MapKept.IsKey (.int ik) x.key := fun x hx => by
  obtain ⟨a, e⟩ := h.2.1 x hx; rw [e]; exact rfl
theorem mapG.push {es : Array MapEntry} {clock : Nat} {ik : IntKind} {f : Int → Option Value} {n : Nat} (h : mapG es clock ik f n) {a : Int} {v : Value} (hn : ∀ x ∈ es.toList, x.key ≠ .int ik a) : mapG (es.push { key := .int ik a, val := v, born := clock }) (clock + 1) ik (fset f a v) (n + 1) ∧ f a = none := by
  obtain ⟨h1, h2, h3, h4⟩ := h
  have hfa : f a = none := by
    cases hf : f a with
    | none => rfl
    | some u => obtain ⟨x, hx, e, _⟩ := (h3 a u).1 hf; exact absurd e (hn x hx)
  refine ⟨⟨MapKept.stamped_push h1 hn, ?_, ?_, by simp [h4]⟩, hfa⟩
  · intro x hx
    simp only [Array.toList_push, List.mem_append, List.mem_singleton] at hx
    rcases hx with hx | rfl
    · exact h2 x hx
    · exact ⟨a, rfl⟩
  · intro k u
    unfold fset
    simp only [Array.toList_push, List.mem_append, List.mem_singleton]
    by_cases hk : k = a
    · subst hk
      rw [if_pos rfl]
      constructor
      · intro e; cases e; exact ⟨_, .inr rfl, rfl, rfl⟩
      · rintro ⟨x, hx | rfl, e1, e2⟩
        · exact absurd e1 (hn x hx)
        · rw [← e2]
    · rw [if_neg hk, h3]
      constructor
      · rintro ⟨x, hx, e1, e2⟩; exact ⟨x, .inl hx, e1, e2⟩
      · rintro ⟨x, hx | rfl, e1, e2⟩
        · exact ⟨x, hx, e1, e2⟩
        · cases e1; exact absurd rfl hk
theorem mapG.modify {es : Array MapEntry} {clock : Nat} {ik : IntKind} {f : Int → Option Value} {n : Nat} (h : mapG es clock ik f n) {a : Int} {v : Value} {j : Nat} {e : MapEntry} (hj : es[j]? = some e) (he : e.key = .int ik a) :
    mapG (es.modify j fun e => { e with key := .int ik a, val := v }) clock ik (fset f a v) n ∧ f a = some e.val := by
  obtain ⟨h1, h2, h3, h4⟩ := h
  have hmem : e ∈ es.toList := by rw [← Array.getElem?_toList] at hj; exact List.mem_of_getElem? hj
  have hkey : ∀ e', es[j]? = some e' → ({ e' with key := .int ik a, val := v } : MapEntry).key = e'.key := fun e' he' => by rw [hj] at he'; cases he'; exact he.symm
  have hget : ∀ i, (es.modify j fun e => { e with key := .int ik a, val := v })[i]? = if j = i then (es[i]?).map (fun e => { e with key := .int ik a, val := v }) else es[i]? := fun i => by rw [Array.getElem?_modify]
  have hnd : ∀ (i : Nat) (x : MapEntry), es[i]? = some x → x.key = .int ik a → i = j := fun i x hx hk => by
    have h5 := h1.2.2
    have hi : (es.toList.map (·.key))[i]? = some (.int ik a) := by simp [hx, hk]
    have hj' : (es.toList.map (·.key))[j]? = some (.int ik a) := by simp [hj, he]
    have a1 := (List.getElem?_eq_some_iff.1 hi).1
    have a2 := (List.getElem?_eq_some_iff.1 hj').1
    rw [List.getElem?_eq_getElem a1] at hi
    rw [List.getElem?_eq_getElem a2] at hj'
    exact (List.getElem_inj h5).1 ((Option.some.inj hi).trans (Option.some.inj hj').symm)
  refine ⟨⟨MapKept.stamped_modify h1 _ _ (fun _ _ => rfl) (fun e' _ he' => hkey e' he'), ?_, ?_, by simp [h4]⟩, (h3 a e.val).2 ⟨e, hmem, he, rfl⟩⟩
  · intro x hx
    obtain ⟨i, hi, rfl⟩ := List.getElem_of_mem hx
    have hi2 := hget i
    rw [← Array.getElem?_toList, List.getElem?_eq_getElem hi] at hi2
    by_cases hij : j = i
    · subst hij; rw [if_pos rfl, hj] at hi2; simp only [Option.map_some, Option.some.injEq] at hi2; rw [hi2]; exact ⟨a, rfl⟩
    · rw [if_neg hij] at hi2
      have hm' := hi2.symm
      rw [← Array.getElem?_toList] at hm'
      exact h2 _ (List.mem_of_getElem? hm')
  · intro k u
    have hm : ∀ x, x ∈ (es.modify j fun e => { e with key := .int ik a, val := v }).toList ↔ ∃ i, (es.modify j fun e => { e with key := .int ik a, val := v })[i]? = some x := fun x => by
      rw [List.mem_iff_getElem?]
      constructor
      · rintro ⟨i, hi⟩; exact ⟨i, by rw [← Array.getElem?_toList]; exact hi⟩
      · rintro ⟨i, hi⟩; exact ⟨i, by rw [Array.getElem?_toList]; exact hi⟩
    have hm0 : ∀ x, x ∈ es.toList ↔ ∃ i, es[i]? = some x := fun x => by
      rw [List.mem_iff_getElem?]
      constructor
      · rintro ⟨i, hi⟩; exact ⟨i, by rw [← Array.getElem?_toList]; exact hi⟩
      · rintro ⟨i, hi⟩; exact ⟨i, by rw [Array.getElem?_toList]; exact hi⟩
    unfold fset
    by_cases hk : k = a
    · subst hk
      rw [if_pos rfl]
      constructor
      · intro e0; cases e0
        exact ⟨{ e with key := .int ik k, val := v }, (hm _).2 ⟨j, by rw [hget, if_pos rfl, hj]; rfl⟩, rfl, rfl⟩
      · rintro ⟨x, hx, e1, e2⟩
        obtain ⟨i, hi⟩ := (hm x).1 hx
        rw [hget] at hi
        by_cases hij : j = i
        · subst hij; rw [if_pos rfl, hj] at hi; simp only [Option.map_some, Option.some.injEq] at hi; rw [← e2, ← hi]
        · rw [if_neg hij] at hi; exact absurd (hnd i x hi e1).symm hij
    · rw [if_neg hk, h3]
      constructor
      · rintro ⟨x, hx, e1, e2⟩
        obtain ⟨i, hi⟩ := (hm0 x).1 hx
        refine ⟨x, (hm x).2 ⟨i, ?_⟩, e1, e2⟩
        rw [hget, if_neg]
        · exact hi
        · rintro rfl; rw [hj] at hi; cases hi; rw [he] at e1; cases e1; exact hk rfl
      · rintro ⟨x, hx, e1, e2⟩
        obtain ⟨i, hi⟩ := (hm x).1 hx
        rw [hget] at hi
        by_cases hij : j = i
        · subst hij; rw [if_pos rfl, hj] at hi; simp only [Option.map_some, Option.some.injEq] at hi; rw [← hi] at e1; cases e1; exact absurd rfl hk
        · rw [if_neg hij] at hi; exact ⟨x, (hm0 x).2 ⟨i, hi⟩, e1, e2⟩
theorem Sat.map_cases {σ : World} {R : Hp} {L : List Asn} {w : World} {b : Nat} {ik : IntKind} {f : Int → Option Value} {n : Nat} (s : Sat σ R (mapF b ik f n :: L) w) : ∃ es clock, mapG es clock ik f n ∧ Sat σ R (objA b (.map es clock) :: L) w := by
  obtain ⟨g, a, d, h1, h2, c1, c2, c3, ⟨es, clock, hb, hg⟩, c5⟩ := s.own
  exact ⟨es, clock, hg, s.os, s.tape, s.output, s.ro, g, a, d, h1, h2, c1, c2, c3, hb, c5⟩
theorem Sat.map_back {σ : World} {R : Hp} {L : List Asn} {w : World} {b clock : Nat} {es : Array MapEntry} {ik : IntKind} {f : Int → Option Value} {n : Nat} (s : Sat σ R (objA b (.map es clock) :: L) w) (h : mapG es clock ik f n) : Sat σ R (mapF b ik f n :: L) w :=
  s.turn fun h0 hb => ⟨es, clock, hb, h⟩
theorem obj_heap {σ : World} {R : Hp} {L : List Asn} {w : World} {b : Nat} {o : Obj} (s : Sat σ R (objA b o :: L) w) : w.heap[b]? = some o := heap_of_one s
theorem Sat.obj_set {σ : World} {R : Hp} {L : List Asn} {w : World} {b : Nat} {o : Obj} (o' : Obj) (s : Sat σ R (objA b o :: L) w) : Sat σ R (objA b o' :: L) { w with heap := w.heap.setIfInBounds b o' } := by
  obtain ⟨e1, e2⟩ := MapKept.heap_set (o' := o') (obj_heap s)
  exact Sat.put (o := o) s rfl rfl rfl (fun k hk _ => e2 k hk) e1
section
variable {c : Cx} {ops : Array Oper} {Q : Exit → Act → World → Prop} {E : Env} {R : Hp} {L M : List Asn} {rest : List Oper} {d : Option Tmp} {ty : TypeId} {p : String} {af : Array Edge} {g : Option (Nat × Bool)}
theorem rj_makeMap {dd : Nat} {t : TypeId} {ik : IntKind} (hw : Wn c ops E ⟨some dd, .makeMap t none, ty, p, af, g⟩ true) (hn : Nat.blt dd c.n = true)
    (h : ∀ b, RJ c ops Q rest ((dd, .map (some b)) :: E) R (mapF b ik (fun _ => none) 0 :: L)) : RJ c ops Q (⟨some dd, .makeMap t none, ty, p, af, g⟩ :: rest) E R L := by
  refine rj_new (v := fun b => .map (some b)) (L' := fun b => mapF b ik (fun _ => none) 0 :: L) hw rfl hn (fun a w hf hs => ⟨w.heap.size, w.alloc (.map #[] 0), ?_, ?_⟩) h
  · simp [execOp, Instr.makeMap]
  · exact Sat.map_back (es := #[]) (clock := 0) (hs.alloc _) (mapG_empty 0 ik)
theorem run_mapUpdate {P : Program} {σ : World} {w : World} {t kt et : TypeId} {ik : IntKind} (hm : P.underlying t = some (.map kt et)) (hd : P.underlying kt = some (.int ik)) {b : Nat} {f : Int → Option Value} {n : Nat} (s : Sat σ R (mapF b ik f n :: L) w) (a : Int) (v : Value) :
    ∃ w', (Instr.mapUpdate t (.map (some b)) (.int ik a) v).run P w = .ok () w' ∧ Sat σ R (mapF b ik (fset f a v) (if (f a).isSome then n else n + 1) :: L) w' := by
  obtain ⟨es, clock, hg, s2⟩ := s.map_cases
  have hb := obj_heap s2
  have hk : MapKept.IsKey (.int ik) (.int ik a) := rfl
  rcases MapKept.findNow_spec hk es.toList 0 hg.isKey with ⟨h1, h2⟩ | ⟨j, e, h1, h2, h3⟩
  · obtain ⟨hp, hfa⟩ := hg.push (v := v) h2
    refine ⟨{ w with heap := w.heap.setIfInBounds b (.map (es.push { key := .int ik a, val := v, born := clock }) (clock + 1)) }, ?_, ?_⟩
    rotate_left
    · rw [hfa]; exact Sat.map_back (s2.obj_set (.map (es.push { key := .int ik a, val := v, born := clock }) (clock + 1))) hp
    · simp [Instr.mapUpdate, run_underlying hm, MapKept.run_getObj_map hb, MapKept.run_checkKey hd hk, MapKept.run_findKey hd h1, MapKept.run_setObj_map _ hb, Result.andThen]
  · have hj : es[j]? = some e := by simpa using h2
    obtain ⟨hp, hfa⟩ := hg.modify (v := v) hj h3
    refine ⟨{ w with heap := w.heap.setIfInBounds b (.map (es.modify j fun e => { e with key := .int ik a, val := v }) clock) }, ?_, ?_⟩
    rotate_left
    · rw [hfa]; exact Sat.map_back (s2.obj_set (.map (es.modify j fun e => { e with key := .int ik a, val := v }) clock)) hp
    · simp [Instr.mapUpdate, run_underlying hm, MapKept.run_getObj_map hb, MapKept.run_checkKey hd hk, MapKept.run_findKey hd h1, hj, h3, MapKept.run_keyThatStays hk, MapKept.run_setObj_map _ hb, Result.andThen]
theorem rj_mapUpdate {t kt et : TypeId} {ik : IntKind} {m x y : Operand} {b : Nat} {f : Int → Option Value} {n : Nat} {a : Int} {v : Value} (hm : c.P.underlying t = some (.map kt et)) (hd : c.P.underlying kt = some (.int ik))
    (hw : Wn c ops E ⟨none, .mapUpdate t m x y, ty, p, af, g⟩ true) (e1 : ev E m = some (.map (some b))) (e2 : ev E x = some (.int ik a)) (e3 : ev E y = some v) (fd : Find (mapF b ik f n) L M)
    (h : RJ c ops Q rest E R (mapF b ik (fset f a v) (if (f a).isSome then n else n + 1) :: M)) : RJ c ops Q (⟨none, .mapUpdate t m x y, ty, p, af, g⟩ :: rest) E R L := by
  refine rj_runs hw rfl (fun ac w hf hs => ?_) h
  obtain ⟨w', h1, h2⟩ := run_mapUpdate hm hd (hs.find fd) a v
  exact ⟨w', by simp [execOp, hf.ev e1, hf.ev e2, hf.ev e3, h1], h2⟩
theorem y_len_map {x : Operand} {t kt et : TypeId} {ik : IntKind} {b : Nat} {f : Int → Option Value} {n : Nat} (hm : c.P.underlying t = some (.map kt et)) (e1 : ev E x = some (.map (some b))) (fd : Find (mapF b ik f n) L M) :
    Yld c E R L ⟨d, .call { callee := .builtin .len, args := #[x], argTypes := #[t] }, ty, p, af, g⟩ (.int .i64 n) := fun ac w hf hs => by
  obtain ⟨es, clock, hg, s2⟩ := (hs.find fd).map_cases
  have hb := obj_heap s2
  have r : (Builtin.len_ #[t] ty #[.map (some b)]).run c.P w = .ok (goInt n) w := by
    rw [← hg.2.2.2]
    simp [Builtin.len_, run_underlying hm, MapKept.run_getObj_map hb]
  simp [execOp, resolve, invoke, builtin, hf.ev e1, r, Oper.quietUpon, goInt]
end
end V
end Go.Proofs.YtjdbigplednihaaGreat
set_option linter.unusedSimpArgs false
set_option linter.unusedVariables false
set_option maxRecDepth 100000
namespace Go.Proofs.YtjdbigplednihaaGreat
open Go.RowKit
namespace V
set_option maxHeartbeats 4000000
structure NB where
  x : Nat
  l : Nat
  d : Nat
structure NV where
  u : Value
  va : Value
  vm : Value
  vp : Value
  vo : Value
  css : List (List Value)
def ndC (b : NB) (v : NV) (x : ND) : List Value := [.int .i64 (x.id : Int), .int .i64 (x.n : Int), .pointer (some ⟨b.l, 0, none⟩), .int .i64 x.role, .int .i64 x.leader, .int .u64 x.commit, .int .i64 x.patience, v.vm, v.vp, v.vo, .bool x.down]
@[reducible] def ndB (b : NB) (v : NV) (x : ND) : Asn := blk b.x (ndC b v x) 81
def pairC (p : Int × Int) : List Value := [.int .u64 p.1, .int .u64 p.2]
def pairsV (l : List (Int × Int)) : List Value := (l.map pairC).flatten
def votesF (l : List Int) : Int → Option Value := fun k => if k ∈ l then some (.bool true) else none
def mpA (vm : Value) (votes : List Int) : Asn := match vm with
  | .map (some m) => mapF m .i64 (votesF votes) votes.length
  | _ => fun _ => True
@[reducible] def lgN (b : NB) (v : NV) (x : ND) : Asn := lgB b.l (some ⟨b.d, 0, none⟩) v.va x.g
@[reducible] def prA (v : NV) (x : ND) : Asn := slc 116 2 v.vp x.peers.length (pairsV x.peers)
@[reducible] def outA (v : NV) (x : ND) : Asn := slc 48 10 v.vo x.out.length v.css.flatten
@[reducible] def ndI (b : NB) (v : NV) (x : ND) (D : DK) : List Asn := [ndB b v x, lgN b v x, dkB b.d v.u D, dkS v.u D, prA v x, mpA v.vm x.votes]
@[reducible] def ndL (b : NB) (v : NV) (x : ND) (D : DK) : List Asn := [ndB b v x, lgN b v x, dkB b.d v.u D, dkS v.u D, prA v x, mpA v.vm x.votes, outA v x]
structure NOk (R : Hp) (v : NV) (x : ND) : Prop where
  va : FrX entE R x.g.all v.va
  out : Els msgE R x.out v.css
  vm : v.vm.oneCell' = true
  vp : v.vp.oneCell' = true
  vo : v.vo.oneCell' = true
  map : x.role = 1 → ∃ m, v.vm = .map (some m)
theorem NOk.mono {R R' : Hp} (hR : R.le R') {v : NV} {x : ND} (h : NOk R v x) : NOk R' v x := ⟨h.va.mono hR, h.out.mono hR, h.vm, h.vp, h.vo, h.map⟩
structure NIn (k : Nat) (x : ND) : Prop where
  idn : x.id < x.n ∧ x.n ≤ 9
  term : 0 ≤ x.g.term ∧ x.g.term ≤ 2305843009213693952 + k
  vote : -1 ≤ x.g.vote ∧ x.g.vote < 9
  base : 0 ≤ x.g.base ∧ x.g.base ≤ 100000000000000
  baseT : 0 ≤ x.g.baseT ∧ x.g.baseT ≤ 2305843009213693952 + k
  state : x.g.state.length ≤ 1000000
  alln : x.g.all.length ≤ 80000 + 20 * k
  all : ∀ e ∈ x.g.all, (0 ≤ e.1 ∧ e.1 ≤ 2305843009213693952 + k) ∧ e.2.length ≤ 100
  commit : 0 ≤ x.commit ∧ x.commit ≤ 150000000000000
  patience : 0 ≤ x.patience ∧ x.patience ≤ 1000000000000 + k
  peers : x.role = 2 → x.peers.length = x.n
  peer : ∀ p ∈ x.peers, (1 ≤ p.1 ∧ p.1 ≤ 200000000000000) ∧ (0 ≤ p.2 ∧ p.2 ≤ 150000000000000)
  votes : x.votes.Nodup ∧ ∀ i ∈ x.votes, 0 ≤ i ∧ i < (x.n : Int)
  out : x.out.length ≤ 20 * k
theorem NIn.le {k j : Nat} {x : ND} (h : NIn k x) (hk : k ≤ j) : NIn j x :=
  ⟨h.idn, ⟨h.term.1, by have := h.term.2; omega⟩, h.vote, h.base, ⟨h.baseT.1, by have := h.baseT.2; omega⟩, h.state, by have := h.alln; omega, fun e he => ⟨⟨(h.all e he).1.1, by have := (h.all e he).1.2; omega⟩, (h.all e he).2⟩, h.commit, ⟨h.patience.1, by have := h.patience.2; omega⟩, h.peers, h.peer, h.votes, by have := h.out; omega⟩
theorem NIn.g {k : Nat} {x : ND} (h : NIn k x) (hk : k ≤ 100) : x.g.ok := by
  have h1 := h.term
  have h2 := h.vote
  have h3 := h.base
  have h4 := h.baseT
  have h5 := h.alln
  exact ⟨by unfold u64B; omega, by omega, by omega, by unfold u64B; omega, h.state, by omega, fun e he => by have := h.all e he; unfold u64B; omega⟩
theorem ndRole_q {R : Hp} (b : NB) (v : NV) (x : ND) : QTri Tryz.prog 10 [.pointer (some ⟨b.x, 0, none⟩)] R [ndB b v x] (.int .i64 x.role) := by
  refine Tri.q ?_
  unfold ndB ndC
  refine tri_of Tryz.func10 rfl Tryz.ntmps10 rfl (fun σ F Q hret hend hpan => ?_)
  try simp only [List.cons_append, List.nil_append]
  refine cj_env (eL 0 rfl eN) ?_
  refine cj_seq (fun K1 hK1 => ?_)
  refine cj_region ?_
  refine rv0 rfl rfl rfl (y_assign rfl) ?_
  refine rj_nil ?_
  refine hK1 _ _ _ ?_
  refine cj_seq (fun K2 hK2 => ?_)
  refine cj_seq (fun K3 hK3 => ?_)
  refine cj_region ?_
  refine rv0 rfl rfl rfl (y_move rfl) ?_
  refine rv0 rfl rfl rfl (y_peql Tryz.underlying30 rfl rfl) ?_
  refine rj_nil ?_
  refine hK3 _ _ _ ?_
  refine cj_cond_f rfl ?_
  refine cj_skip ?_
  refine hK2 _ _ _ ?_
  refine cj_env (eL 0 rfl eN) ?_
  refine cj_seq (fun K4 hK4 => ?_)
  refine cj_region ?_
  refine rv0 rfl rfl rfl (y_move rfl) ?_
  refine rv0 rfl rfl rfl (y_nilCheck rfl) ?_
  refine rv0 rfl rfl rfl (y_fieldAddr (k := 3) Tryz.underlying81 rfl (n := 1) (by decide) Tryz.sizeOf3 rfl) ?_
  first | refine rv0 rfl rfl rfl (y_load ⟨Tryz.isAgg3, Tryz.sizeOf3⟩ rfl (by (repeat (first|exact zH _|apply zT));done) rfl) ?_ | refine rv0 rfl rfl rfl (y_load_slc ⟨Tryz.isAgg3, Tryz.sizeOf3⟩ rfl (by (repeat (first|exact zH _|apply zT));done) rfl) ?_
  refine rv0 rfl rfl rfl (y_assign rfl) ?_
  refine rj_nil ?_
  refine hK4 _ _ _ ?_
  refine cj_env (eL 2 rfl eN) ?_
  refine cj_ret ?_
  refine hret _ _ _ ?_
  apply ej_ret Tryz.results10 (.cons (rv_tmp rfl) .nil) _ [ndB b v x] (by (first | exact Hp.le_refl _ | assumption | exact Hp.le_trans ‹_› ‹_›)) rfl
  case hp => exact ⟨rfl, rfl, rfl⟩
  case hS => (repeat (first|exact zR _|(apply zP;focus (repeat (first|exact zH _|apply zT)))|apply zD|exact zA _ _))
theorem ndLeader_q {R : Hp} (b : NB) (v : NV) (x : ND) : QTri Tryz.prog 30 [.pointer (some ⟨b.x, 0, none⟩)] R [ndB b v x] (.int .i64 x.leader) := by
  refine Tri.q ?_
  unfold ndB ndC
  refine tri_of Tryz.func30 rfl Tryz.ntmps30 rfl (fun σ F Q hret hend hpan => ?_)
  try simp only [List.cons_append, List.nil_append]
  refine cj_env (eL 0 rfl eN) ?_
  refine cj_seq (fun K1 hK1 => ?_)
  refine cj_region ?_
  refine rv0 rfl rfl rfl (y_assign rfl) ?_
  refine rj_nil ?_
  refine hK1 _ _ _ ?_
  refine cj_seq (fun K2 hK2 => ?_)
  refine cj_seq (fun K3 hK3 => ?_)
  refine cj_region ?_
  refine rv0 rfl rfl rfl (y_move rfl) ?_
  refine rv0 rfl rfl rfl (y_peql Tryz.underlying30 rfl rfl) ?_
  refine rj_nil ?_
  refine hK3 _ _ _ ?_
  refine cj_cond_f rfl ?_
  refine cj_skip ?_
  refine hK2 _ _ _ ?_
  refine cj_env (eL 0 rfl eN) ?_
  refine cj_seq (fun K4 hK4 => ?_)
  refine cj_region ?_
  refine rv0 rfl rfl rfl (y_move rfl) ?_
  refine rv0 rfl rfl rfl (y_nilCheck rfl) ?_
  refine rv0 rfl rfl rfl (y_fieldAddr (k := 4) Tryz.underlying81 rfl (n := 1) (by decide) Tryz.sizeOf3 rfl) ?_
  first | refine rv0 rfl rfl rfl (y_load ⟨Tryz.isAgg3, Tryz.sizeOf3⟩ rfl (by (repeat (first|exact zH _|apply zT));done) rfl) ?_ | refine rv0 rfl rfl rfl (y_load_slc ⟨Tryz.isAgg3, Tryz.sizeOf3⟩ rfl (by (repeat (first|exact zH _|apply zT));done) rfl) ?_
  refine rv0 rfl rfl rfl (y_assign rfl) ?_
  refine rj_nil ?_
  refine hK4 _ _ _ ?_
  refine cj_env (eL 2 rfl eN) ?_
  refine cj_ret ?_
  refine hret _ _ _ ?_
  apply ej_ret Tryz.results30 (.cons (rv_tmp rfl) .nil) _ [ndB b v x] (by (first | exact Hp.le_refl _ | assumption | exact Hp.le_trans ‹_› ‹_›)) rfl
  case hp => exact ⟨rfl, rfl, rfl⟩
  case hS => (repeat (first|exact zR _|(apply zP;focus (repeat (first|exact zH _|apply zT)))|apply zD|exact zA _ _))
theorem ndCommit_q {R : Hp} (b : NB) (v : NV) (x : ND) : QTri Tryz.prog 17 [.pointer (some ⟨b.x, 0, none⟩)] R [ndB b v x] (.int .u64 x.commit) := by
  refine Tri.q ?_
  unfold ndB ndC
  refine tri_of Tryz.func17 rfl Tryz.ntmps17 rfl (fun σ F Q hret hend hpan => ?_)
  try simp only [List.cons_append, List.nil_append]
  refine cj_env (eL 0 rfl eN) ?_
  refine cj_seq (fun K1 hK1 => ?_)
  refine cj_region ?_
  refine rv0 rfl rfl rfl (y_assign rfl) ?_
  refine rj_nil ?_
  refine hK1 _ _ _ ?_
  refine cj_seq (fun K2 hK2 => ?_)
  refine cj_seq (fun K3 hK3 => ?_)
  refine cj_region ?_
  refine rv0 rfl rfl rfl (y_move rfl) ?_
  refine rv0 rfl rfl rfl (y_peql Tryz.underlying30 rfl rfl) ?_
  refine rj_nil ?_
  refine hK3 _ _ _ ?_
  refine cj_cond_f rfl ?_
  refine cj_skip ?_
  refine hK2 _ _ _ ?_
  refine cj_env (eL 0 rfl eN) ?_
  refine cj_seq (fun K4 hK4 => ?_)
  refine cj_region ?_
  refine rv0 rfl rfl rfl (y_move rfl) ?_
  refine rv0 rfl rfl rfl (y_nilCheck rfl) ?_
  refine rv0 rfl rfl rfl (y_fieldAddr (k := 5) Tryz.underlying81 rfl (n := 1) (by decide) Tryz.sizeOf31 rfl) ?_
  first | refine rv0 rfl rfl rfl (y_load ⟨Tryz.isAgg31, Tryz.sizeOf31⟩ rfl (by (repeat (first|exact zH _|apply zT));done) rfl) ?_ | refine rv0 rfl rfl rfl (y_load_slc ⟨Tryz.isAgg31, Tryz.sizeOf31⟩ rfl (by (repeat (first|exact zH _|apply zT));done) rfl) ?_
  refine rv0 rfl rfl rfl (y_assign rfl) ?_
  refine rj_nil ?_
  refine hK4 _ _ _ ?_
  refine cj_env (eL 2 rfl eN) ?_
  refine cj_ret ?_
  refine hret _ _ _ ?_
  apply ej_ret Tryz.results17 (.cons (rv_tmp rfl) .nil) _ [ndB b v x] (by (first | exact Hp.le_refl _ | assumption | exact Hp.le_trans ‹_› ‹_›)) rfl
  case hp => exact ⟨rfl, rfl, rfl⟩
  case hS => (repeat (first|exact zR _|(apply zP;focus (repeat (first|exact zH _|apply zT)))|apply zD|exact zA _ _))
theorem ndLog_q {R : Hp} (b : NB) (v : NV) (x : ND) : QTri Tryz.prog 12 [.pointer (some ⟨b.x, 0, none⟩)] R [ndB b v x] (.pointer (some ⟨b.l, 0, none⟩)) := by
  refine Tri.q ?_
  unfold ndB ndC
  refine tri_of Tryz.func12 rfl Tryz.ntmps12 rfl (fun σ F Q hret hend hpan => ?_)
  try simp only [List.cons_append, List.nil_append]
  refine cj_env (eL 0 rfl eN) ?_
  refine cj_seq (fun K1 hK1 => ?_)
  refine cj_region ?_
  refine rv0 rfl rfl rfl (y_assign rfl) ?_
  refine rj_nil ?_
  refine hK1 _ _ _ ?_
  refine cj_seq (fun K2 hK2 => ?_)
  refine cj_seq (fun K3 hK3 => ?_)
  refine cj_region ?_
  refine rv0 rfl rfl rfl (y_move rfl) ?_
  refine rv0 rfl rfl rfl (y_peql Tryz.underlying30 rfl rfl) ?_
  refine rj_nil ?_
  refine hK3 _ _ _ ?_
  refine cj_cond_f rfl ?_
  refine cj_skip ?_
  refine hK2 _ _ _ ?_
  refine cj_env (eL 0 rfl eN) ?_
  refine cj_seq (fun K4 hK4 => ?_)
  refine cj_region ?_
  refine rv0 rfl rfl rfl (y_move rfl) ?_
  refine rv0 rfl rfl rfl (y_nilCheck rfl) ?_
  refine rv0 rfl rfl rfl (y_fieldAddr (k := 2) Tryz.underlying81 rfl (n := 1) (by decide) Tryz.sizeOf44 rfl) ?_
  first | refine rv0 rfl rfl rfl (y_load ⟨Tryz.isAgg44, Tryz.sizeOf44⟩ rfl (by (repeat (first|exact zH _|apply zT));done) rfl) ?_ | refine rv0 rfl rfl rfl (y_load_slc ⟨Tryz.isAgg44, Tryz.sizeOf44⟩ rfl (by (repeat (first|exact zH _|apply zT));done) rfl) ?_
  refine rv0 rfl rfl rfl (y_assign rfl) ?_
  refine rj_nil ?_
  refine hK4 _ _ _ ?_
  refine cj_env (eL 2 rfl eN) ?_
  refine cj_ret ?_
  refine hret _ _ _ ?_
  apply ej_ret Tryz.results12 (.cons (rv_tmp rfl) .nil) _ [ndB b v x] (by (first | exact Hp.le_refl _ | assumption | exact Hp.le_trans ‹_› ‹_›)) rfl
  case hp => exact ⟨rfl, rfl, rfl⟩
  case hS => (repeat (first|exact zR _|(apply zP;focus (repeat (first|exact zH _|apply zT)))|apply zD|exact zA _ _))
theorem ndDown_q {R : Hp} (b : NB) (v : NV) (x : ND) (D : DK) : QTri Tryz.prog 26 [.pointer (some ⟨b.x, 0, none⟩)] R [ndB b v x, lgN b v x, dkB b.d v.u D] (.bool (downS (x, D))) := by
  have hd := lgDown_q (R := R) b.l b.d v.va v.u x.g D
  refine Tri.q ?_
  unfold ndB ndC
  refine tri_of Tryz.func26 rfl Tryz.ntmps26 rfl (fun σ F Q hret hend hpan => ?_)
  try simp only [List.cons_append, List.nil_append]
  refine cj_env (eL 0 rfl eN) ?_
  refine cj_seq (fun K1 hK1 => ?_)
  refine cj_region ?_
  refine rv0 rfl rfl rfl (y_assign rfl) ?_
  refine rj_nil ?_
  refine hK1 _ _ _ ?_
  refine cj_seq (fun K2 hK2 => ?_)
  refine cj_region ?_
  refine rv0 rfl rfl rfl (y_move rfl) ?_
  refine rv0 rfl rfl rfl (y_peql Tryz.underlying30 rfl rfl) ?_
  refine rv0 rfl rfl rfl (y_move rfl) ?_
  refine rj_val (wn1 rfl rfl rfl rfl) rfl rfl (y_move rfl) ?_
  refine rj_val (wn1 rfl rfl rfl rfl) rfl rfl (y_nilCheck rfl) ?_
  refine rj_val (wn1 rfl rfl rfl rfl) rfl rfl (y_fieldAddr (k := 10) Tryz.underlying81 rfl (n := 1) (by decide) Tryz.sizeOf4 rfl) ?_
  first | refine rj_val (wn1 rfl rfl rfl rfl) rfl rfl (y_load ⟨Tryz.isAgg4, Tryz.sizeOf4⟩ rfl (by (repeat (first|exact zH _|apply zT));done) rfl) ?_ | refine rj_val (wn1 rfl rfl rfl rfl) rfl rfl (y_load_slc ⟨Tryz.isAgg4, Tryz.sizeOf4⟩ rfl (by (repeat (first|exact zH _|apply zT));done) rfl) ?_
  refine rv0 rfl rfl rfl (y_pick_f rfl rfl) ?_
  refine rv0 rfl rfl rfl (y_move rfl) ?_
  refine rj_part 11 rfl (fun hg11 => ?_) (fun hg11 => ?_)
  ·try simp only [dT, dF, nT, nF, tF, fT] at hg11
   refine rj_skip (wn2 rfl rfl rfl rfl rfl) rfl rfl ?_
   refine rj_skip (wn2 rfl rfl rfl rfl rfl) rfl rfl ?_
   refine rj_skip (wn2 rfl rfl rfl rfl rfl) rfl rfl ?_
   refine rj_skip (wn2 rfl rfl rfl rfl rfl) rfl rfl ?_
   refine rj_skip (wn2 rfl rfl rfl rfl rfl) rfl rfl ?_
   refine rv0 rfl rfl rfl (y_pick_t rfl rfl) ?_
   refine rv0 rfl rfl rfl (y_assign rfl) ?_
   refine rj_nil ?_
   refine hK2 _ _ _ ?_
   refine cj_env (eL 2 rfl eN) ?_
   refine cj_ret ?_
   refine hret _ _ _ ?_
   apply ej_ret Tryz.results26 (.cons (rv_tmp rfl) .nil) _ [ndB b v x, lgN b v x, dkB b.d v.u D] (by (first | exact Hp.le_refl _ | assumption | exact Hp.le_trans ‹_› ‹_›)) rfl
   case hp => refine ⟨?_, rfl, rfl⟩; unfold downS; simp_all [tupOf]
   case hS => (repeat (first|exact zR _|(apply zP;focus (repeat (first|exact zH _|apply zT)))|apply zD|exact zA _ _))
  ·try simp only [dT, dF, nT, nF, tF, fT] at hg11
   refine rj_val (wn1 rfl rfl rfl rfl) rfl rfl (y_move rfl) ?_
   refine rj_val (wn1 rfl rfl rfl rfl) rfl rfl (y_nilCheck rfl) ?_
   refine rj_val (wn1 rfl rfl rfl rfl) rfl rfl (y_fieldAddr (k := 2) Tryz.underlying81 rfl (n := 1) (by decide) Tryz.sizeOf44 rfl) ?_
   first | refine rj_val (wn1 rfl rfl rfl rfl) rfl rfl (y_load ⟨Tryz.isAgg44, Tryz.sizeOf44⟩ rfl (by (repeat (first|exact zH _|apply zT));done) rfl) ?_ | refine rj_val (wn1 rfl rfl rfl rfl) rfl rfl (y_load_slc ⟨Tryz.isAgg44, Tryz.sizeOf44⟩ rfl (by (repeat (first|exact zH _|apply zT));done) rfl) ?_
   refine rj_val (wn1 rfl rfl rfl rfl) rfl rfl (y_call Tryz.call59 rfl (hd) (by (repeat (first|exact zN _|(apply zS;focus (repeat (first|exact zH _|apply zT))))))) ?_
   refine rv0 rfl rfl rfl (y_pick_f rfl rfl) ?_
   refine rv0 rfl rfl rfl (y_assign rfl) ?_
   refine rj_nil ?_
   refine hK2 _ _ _ ?_
   refine cj_env (eL 2 rfl eN) ?_
   refine cj_ret ?_
   refine hret _ _ _ ?_
   apply ej_ret Tryz.results26 (.cons (rv_tmp rfl) .nil) _ [ndB b v x, lgN b v x, dkB b.d v.u D] (by (first | exact Hp.le_refl _ | assumption | exact Hp.le_trans ‹_› ‹_›)) rfl
   case hp => refine ⟨?_, rfl, rfl⟩; unfold downS; simp_all [tupOf]
   case hS => (repeat (first|exact zR _|(apply zP;focus (repeat (first|exact zH _|apply zT)))|apply zD|exact zA _ _))
theorem ndTermAt_q {R : Hp} (b : NB) (v : NV) (x : ND) (hg : x.g.ok) (hv : FrX entE R x.g.all v.va) (i : Int) (hi : u64B i) : QTri Tryz.prog 63 [.pointer (some ⟨b.x, 0, none⟩), .int .u64 i] R [ndB b v x, lgN b v x] (.int .u64 (x.tAt i)) := by
  have ht := lgTermAt_q (R := R) b.l (some ⟨b.d, 0, none⟩) v.va x.g hg hv i hi
  refine Tri.q ?_
  unfold ndB ndC
  refine tri_of Tryz.func63 rfl Tryz.ntmps63 rfl (fun σ F Q hret hend hpan => ?_)
  try simp only [List.cons_append, List.nil_append]
  refine cj_env (eL 0 rfl (eL 1 rfl eN)) ?_
  refine cj_seq (fun K1 hK1 => ?_)
  refine cj_region ?_
  refine rv0 rfl rfl rfl (y_assign rfl) ?_
  refine rj_nil ?_
  refine hK1 _ _ _ ?_
  refine cj_seq (fun K2 hK2 => ?_)
  refine cj_region ?_
  refine rv0 rfl rfl rfl (y_move rfl) ?_
  refine rv0 rfl rfl rfl (y_nilCheck rfl) ?_
  refine rv0 rfl rfl rfl (y_fieldAddr (k := 2) Tryz.underlying81 rfl (n := 1) (by decide) Tryz.sizeOf44 rfl) ?_
  first | refine rv0 rfl rfl rfl (y_load ⟨Tryz.isAgg44, Tryz.sizeOf44⟩ rfl (by (repeat (first|exact zH _|apply zT));done) rfl) ?_ | refine rv0 rfl rfl rfl (y_load_slc ⟨Tryz.isAgg44, Tryz.sizeOf44⟩ rfl (by (repeat (first|exact zH _|apply zT));done) rfl) ?_
  refine rv0 rfl rfl rfl (y_move rfl) ?_
  refine rv0 rfl rfl rfl (y_call Tryz.call96 rfl (ht) (by (repeat (first|exact zN _|(apply zS;focus (repeat (first|exact zH _|apply zT))))))) ?_
  refine rj_eq 13 rfl (v' := tupOf [.int .u64 ((x.g.termAt i).getD 0), .bool (x.g.termAt i).isSome]) (numV_eq _) ?_
  refine rv0 rfl rfl rfl (y_move rfl) ?_
  refine rv0 rfl rfl rfl (y_extract rfl rfl) ?_
  refine rv0 rfl rfl rfl (y_extract rfl rfl) ?_
  refine rv0 rfl rfl rfl (y_assign rfl) ?_
  refine rv0 rfl rfl rfl (y_assign rfl) ?_
  refine rj_nil ?_
  refine hK2 _ _ _ ?_
  refine cj_env (eL 5 rfl eN) ?_
  refine cj_seq (fun K3 hK3 => ?_)
  refine cj_region ?_
  refine rv0 rfl rfl rfl (y_move rfl) ?_
  refine rv0 rfl rfl rfl (y_assign rfl) ?_
  refine rj_nil ?_
  refine hK3 _ _ _ ?_
  refine cj_ret ?_
  refine hret _ _ _ ?_
  apply ej_ret Tryz.results63 (.cons (rv_tmp rfl) .nil) _ [ndB b v x, lgN b v x] (by (first | exact Hp.le_refl _ | assumption | exact Hp.le_trans ‹_› ‹_›)) rfl
  case hp => exact ⟨rfl, rfl, rfl⟩
  case hS => (repeat (first|exact zR _|(apply zP;focus (repeat (first|exact zH _|apply zT)))|apply zD|exact zA _ _))
theorem limit_q {R : Hp} (b : NB) (v : NV) (x : ND) (k : Nat) (hk : k ≤ 100) (hx : NIn k x) : QTri Tryz.prog 36 [.pointer (some ⟨b.x, 0, none⟩)] R [ndB b v x, lgN b v x] (.int .i64 (limitI x.id x.g.term)) := by
  have h1 := hx.term
  have h2 := hx.idn
  have hm : 0 ≤ (7 * (x.id : Int) + 3 * x.g.term) % 11 ∧ (7 * (x.id : Int) + 3 * x.g.term) % 11 < 11 := ⟨Int.emod_nonneg _ (by decide), Int.emod_lt_of_pos _ (by decide)⟩
  have ht := lgTerm_q (R := R) b.l (some ⟨b.d, 0, none⟩) v.va x.g
  refine Tri.q ?_
  unfold ndB ndC
  refine tri_of Tryz.func36 rfl Tryz.ntmps36 rfl (fun σ F Q hret hend hpan => ?_)
  try simp only [List.cons_append, List.nil_append]
  refine cj_env (eL 0 rfl eN) ?_
  refine cj_seq (fun K1 hK1 => ?_)
  refine cj_region ?_
  refine rv0 rfl rfl rfl (y_assign rfl) ?_
  refine rj_nil ?_
  refine hK1 _ _ _ ?_
  refine cj_seq (fun K2 hK2 => ?_)
  refine cj_draw (by kernel_rfl) (by kernel_rfl) ?_
  refine qj_val (wn0 rfl) rfl rfl (y_move rfl) ?_
  refine qj_val (wn0 rfl) rfl rfl (y_nilCheck rfl) ?_
  refine qj_val (wn0 rfl) rfl rfl (y_fieldAddr (k := 0) Tryz.underlying81 rfl (n := 1) (by decide) Tryz.sizeOf3 rfl) ?_
  first | refine qj_val (wn0 rfl) rfl rfl (y_load ⟨Tryz.isAgg3, Tryz.sizeOf3⟩ rfl (by (repeat (first|exact zH _|apply zT));done) rfl) ?_ | refine qj_val (wn0 rfl) rfl rfl (y_load_slc ⟨Tryz.isAgg3, Tryz.sizeOf3⟩ rfl (by (repeat (first|exact zH _|apply zT));done) rfl) ?_
  refine qj_val (wn0 rfl) rfl rfl ((y_conv_in Tryz.underlying3 Tryz.underlying31 rfl (by (simp only [IntKind.min, IntKind.max, IntKind.signed, IntKind.bits, Bool.false_eq_true, ite_false, ite_true]; omega)))) ?_
  refine qj_val (wn0 rfl) rfl rfl ((Yld.to (u := .int .u64 (7 * (x.id : Int))) (y_mul rfl rfl) (by rw [wrap_in (by (simp only [IntKind.min, IntKind.max, IntKind.signed, IntKind.bits, Bool.false_eq_true, ite_false, ite_true]; omega))]))) ?_
  refine qj_val (wn0 rfl) rfl rfl (y_move rfl) ?_
  refine qj_val (wn0 rfl) rfl rfl (y_nilCheck rfl) ?_
  refine qj_val (wn0 rfl) rfl rfl (y_fieldAddr (k := 2) Tryz.underlying81 rfl (n := 1) (by decide) Tryz.sizeOf44 rfl) ?_
  first | refine qj_val (wn0 rfl) rfl rfl (y_load ⟨Tryz.isAgg44, Tryz.sizeOf44⟩ rfl (by (repeat (first|exact zH _|apply zT));done) rfl) ?_ | refine qj_val (wn0 rfl) rfl rfl (y_load_slc ⟨Tryz.isAgg44, Tryz.sizeOf44⟩ rfl (by (repeat (first|exact zH _|apply zT));done) rfl) ?_
  refine qj_val (wn0 rfl) rfl rfl (y_call Tryz.call13 rfl (ht) (by (repeat (first|exact zN _|(apply zS;focus (repeat (first|exact zH _|apply zT))))))) ?_
  refine qj_val (wn0 rfl) rfl rfl ((Yld.to (u := .int .u64 (3 * x.g.term)) (y_mul rfl rfl) (by rw [wrap_in (by (simp only [IntKind.min, IntKind.max, IntKind.signed, IntKind.bits, Bool.false_eq_true, ite_false, ite_true]; omega))]))) ?_
  refine qj_val (wn0 rfl) rfl rfl ((y_addu rfl rfl (by omega))) ?_
  refine qj_val (wn0 rfl) rfl rfl ((Yld.to (u := .int .u64 ((7 * (x.id : Int) + 3 * x.g.term) % 11)) (y_rem rfl rfl (by decide)) (by rw [Int.tmod_eq_emod_of_nonneg (by omega)]))) ?_
  refine qj_val (wn0 rfl) rfl rfl ((y_conv_in Tryz.underlying31 Tryz.underlying3 rfl (by (simp only [IntKind.min, IntKind.max, IntKind.signed, IntKind.bits, Bool.false_eq_true, ite_false, ite_true]; omega)))) ?_
  refine qj_val (wn0 rfl) rfl rfl ((y_add64 rfl rfl (by omega))) ?_
  refine qj_val (wn0 rfl) rfl rfl (y_assign rfl) ?_
  refine qj_nil ?_
  refine hK2 _ _ _ ?_
  refine cj_env (eL 2 rfl eN) ?_
  refine cj_ret ?_
  refine hret _ _ _ ?_
  apply ej_ret Tryz.results36 (.cons (rv_tmp rfl) .nil) _ [ndB b v x, lgN b v x] (by (first | exact Hp.le_refl _ | assumption | exact Hp.le_trans ‹_› ‹_›)) rfl
  case hp => exact ⟨rfl, rfl, rfl⟩
  case hS => (repeat (first|exact zR _|(apply zP;focus (repeat (first|exact zH _|apply zT)))|apply zD|exact zA _ _))
end V
end Go.Proofs.YtjdbigplednihaaGreat
