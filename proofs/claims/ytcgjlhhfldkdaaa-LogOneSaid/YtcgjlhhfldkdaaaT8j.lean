/- LogOne walked. -/
import Derived.Test.YtcgjlhhfldkdaaaT8i
set_option linter.unusedSimpArgs false
set_option linter.unusedVariables false
set_option maxRecDepth 100000
namespace Go.Proofs.Ytcgjlhhfldkdaaa
open Go.RowKit
namespace V
set_option maxHeartbeats 4000000
theorem ents_in {R : Hp} {v : Value} {ys : List Ent} (h : slcR 2 entR R [v] ys) : FrX entE R ys v ∧ ∀ e ∈ ys, u64B e.1 ∧ e.2.length ≤ maxLen := by
  have := slcR_frx (T := entE) id (fun c y hl h => entR_E hl h) h
  rw [List.map_id] at this
  exact ⟨this, fun e he => by obtain ⟨c, hc⟩ := slcR_all h e he; exact entR_bd hc⟩
theorem LD.mono {n m : Nat} {g : LG} {D : DK} (h : LD n g D) (hm : n ≤ m) : LD m g D := by
  obtain ⟨h1, h2, h3, h4, h5, h6, h7⟩ := h
  exact ⟨h1, h2, h3, h4, h5, by omega, h7⟩
def gF (l : List Ent) : LG := { LG.new with all := l }
theorem gF_add (l : List Ent) : LG.new.play (.add 0 l) = gF l := by simp [LG.play, gF, LG.new]
theorem gF_over (l m : List Ent) : (gF m).play (.add 0 l) = gF l := by simp [LG.play, gF, LG.new]
theorem gF_next {l : List Ent} {i : Nat} {e : Ent} (h : l[i]? = some e) : (gF (l.take i)).play (.add i [e]) = gF (l.take (i + 1)) := by
  have hi := (List.getElem?_eq_some_iff.1 h).1
  have : (l.take i).take ((i : Int) - 0).toNat = l.take i := by rw [List.take_of_length_le (by simp; omega)]
  unfold gF LG.play LG.new
  dsimp only
  rw [this, List.take_add_one, h]; rfl
theorem entsLen_small {l : List Ent} (h : smallA l) : entsLen l ≤ 1200 := by
  obtain ⟨h1, h2⟩ := h
  have : ∀ (l : List Ent), (∀ e ∈ l, e.2.length ≤ 100) → entsLen l ≤ 120 * l.length := by
    intro l
    induction l with
    | nil => intro _; simp [entsLen]
    | cons e l ih =>
      intro h
      have h1 := ih (fun x hx => h x (by simp [hx]))
      have h2 := h e (by simp)
      simp [entsLen] at h1 ⊢; omega
  have := this l h2
  omega
theorem gF_last {l : List Ent} {i : Nat} (h : i ≤ l.length) : (gF (l.take i)).last = i := by unfold LG.last gF LG.new; simp; omega
theorem gF_addR (l : List Ent) : LG.new.addR 0 l = (gF l, 0) := by
  unfold LG.addR
  rw [if_neg (by unfold LG.last LG.new; simp), gF_add]
theorem three {d1 d2 d3 : Nat} (u1 u2 u3 : Value) {D1 D2 D3 : DK} {n : Nat} {g : LG} (h1 : LD n g D1) (h2 : LD n g D2) (h3 : LD n g D3) {k : Nat} (hk : k < 3) :
    ∃ (dk : Nat) (uk : Value) (Dk : DK) (A1 A2 A3 A4 : Asn), [Value.pointer (some ⟨d1, 0, none⟩), .pointer (some ⟨d2, 0, none⟩), .pointer (some ⟨d3, 0, none⟩)][k]? = some (.pointer (some ⟨dk, 0, none⟩)) ∧ LD n g Dk ∧
      (∀ F, Sub (dkB d1 u1 D1 :: dkS u1 D1 :: dkB d2 u2 D2 :: dkS u2 D2 :: dkB d3 u3 D3 :: dkS u3 D3 :: F) (dkB dk uk Dk :: dkS uk Dk :: A1 :: A2 :: A3 :: A4 :: F)) ∧
      (∀ u', ∃ u1' u2' u3', ∀ F, Sub (dkB dk u' Dk :: dkS u' Dk :: A1 :: A2 :: A3 :: A4 :: F) (dkB d1 u1' D1 :: dkS u1' D1 :: dkB d2 u2' D2 :: dkS u2' D2 :: dkB d3 u3' D3 :: dkS u3' D3 :: F)) := by
  match k with
  | 0 => exact ⟨d1, u1, D1, dkB d2 u2 D2, dkS u2 D2, dkB d3 u3 D3, dkS u3 D3, rfl, h1, fun F => by (repeat (first|exact zR _|(apply zP;focus (repeat (first|exact zH _|apply zT)))|apply zD|exact zA _ _)), fun u' => ⟨u', u2, u3, fun F => by (repeat (first|exact zR _|(apply zP;focus (repeat (first|exact zH _|apply zT)))|apply zD|exact zA _ _))⟩⟩
  | 1 => exact ⟨d2, u2, D2, dkB d1 u1 D1, dkS u1 D1, dkB d3 u3 D3, dkS u3 D3, rfl, h2, fun F => by (repeat (first|exact zR _|(apply zP;focus (repeat (first|exact zH _|apply zT)))|apply zD|exact zA _ _)), fun u' => ⟨u1, u', u3, fun F => by (repeat (first|exact zR _|(apply zP;focus (repeat (first|exact zH _|apply zT)))|apply zD|exact zA _ _))⟩⟩
  | 2 => exact ⟨d3, u3, D3, dkB d1 u1 D1, dkS u1 D1, dkB d2 u2 D2, dkS u2 D2, rfl, h3, fun F => by (repeat (first|exact zR _|(apply zP;focus (repeat (first|exact zH _|apply zT)))|apply zD|exact zA _ _)), fun u' => ⟨u1, u2, u', fun F => by (repeat (first|exact zR _|(apply zP;focus (repeat (first|exact zH _|apply zT)))|apply zD|exact zA _ _))⟩⟩
theorem froz_cell {R : Hp} {b n m : Nat} {xs : List Value} (h : FrozenS R (.slice (some ⟨b, 0, none⟩) n m) n xs) {k : Nat} {u : Value} (hu : xs[k]? = some u) : Hp.cell R ⟨b, 0 + k, none⟩ = some u := by
  rcases h with ⟨h, _⟩ | ⟨b', off, cap, h, _, _, hc⟩
  · cases h
  · cases h; exact hc k u hu
theorem logOne_t {R : Hp} (v0 : Value) (l : List Ent) (h0 : slcR 2 entR R [v0] l) (v1 : Value) (over : List Ent) (h1 : slcR 2 entR R [v1] over) :
    Tri Try.prog 3 [v0, v1] R [] (fun v R' L' => v = .bool true ∧ L' = []) := by
  obtain ⟨hl, hlb⟩ := ents_in h0
  obtain ⟨ho, hob⟩ := ents_in h1
  obtain ⟨q, cap, rfl, hq1, hq2⟩ := hl.shape
  obtain ⟨qo, co, rfl, hqo1, hqo2⟩ := ho.shape
  refine tri_of Try.func3 rfl Try.ntmps3 rfl (fun σ F Q hret hend hpan => ?_)
  try simp only [List.cons_append, List.nil_append]
  refine cj_env (eL 0 rfl (eL 1 rfl eN)) ?_
  refine cj_seq (fun K1 hK1 => ?_)
  refine cj_region ?_
  refine rv0 rfl rfl rfl (y_assign rfl) ?_
  refine rj_nil ?_
  refine hK1 _ _ _ ?_
  refine cj_seq (fun K2 hK2 => ?_)
  refine cj_seq (fun K3 hK3 => ?_)
  refine cj_region ?_
  refine rj_call (wn0 rfl) rfl Try.call4 rfl (awake_t) (by (repeat (first|exact zN _|(apply zS;focus (repeat (first|exact zH _|apply zT)))))) (fun _ _ _ _ h => h.elim) ?_
  rintro r R1 L' hR1 ⟨rfl, rfl⟩
  try simp only [List.cons_append, List.nil_append]
  refine rv0 rfl rfl rfl (y_not rfl) ?_
  refine rj_nil ?_
  refine hK3 _ _ _ ?_
  refine cj_cond_f rfl ?_
  refine cj_skip ?_
  refine hK2 _ _ _ ?_
  refine cj_env (eL 0 rfl (eL 1 rfl eN)) ?_
  refine cj_seq (fun K4 hK4 => ?_)
  refine cj_seq (fun K5 hK5 => ?_)
  refine cj_region ?_
  refine rv0 rfl rfl rfl (y_move rfl) ?_
  refine rv0 rfl rfl rfl (y_build (cells := [_, _, _, _, _, _, _, _]) [(0, 1), (1, 1), (2, 1), (3, 1), (4, 1), (5, 1), (6, 1), (7, 1)] Try.underlying27 Try.zeroValue27 (fun _ => rfl) rfl rfl) ?_
  refine rv0 rfl rfl rfl (y_move rfl) ?_
  refine rv0 rfl rfl rfl (y_build (cells := [_, _, _, _, _, _, _, _]) [(0, 1), (1, 1), (2, 1), (3, 1), (4, 1), (5, 1), (6, 1), (7, 1)] Try.underlying27 Try.zeroValue27 (fun _ => rfl) rfl rfl) ?_
  refine rj_buildSlice (sz := 8) (wn0 rfl) rfl Try.underlying28 Try.sizeOf27 Try.zeroValue27 rfl rfl rfl (by decide) (by decide) (fun b29 => ?_)
  refine rj_freeze (e := 27) (sz := 8) (n := 2) (v := .slice (some ⟨b29, 0, none⟩) 2 2) (xs := [actC (.slice q l.length cap), actC (.slice qo over.length co)].flatten) (by (repeat (first|exact zH _|apply zT));done) (fun R2 hR2 hfr hxl => ?_)
  have hR02 := Hp.le_trans hR1 hR2
  have hfa : FrX actE R2 [l, over] (.slice (some ⟨b29, 0, none⟩) 2 2) := FrozenS.frx (l := [l, over]) hfr ((Els.single (T := actE) (y := l) ⟨_, rfl, hl.mono hR02⟩).snoc (y := over) ⟨_, rfl, ho.mono hR02⟩)
  refine rj_call (wn0 rfl) rfl Try.call5 rfl (small_t _ [l, over] hfa 2) (by (repeat (first|exact zN _|(apply zS;focus (repeat (first|exact zH _|apply zT)))))) (fun _ _ _ _ h => h.elim) ?_
  rintro x R3 L' hR3 ⟨⟨s, rfl, hs⟩, rfl⟩
  have hR03 := Hp.le_trans hR02 hR3
  try simp only [List.cons_append, List.nil_append]
  refine rv0 rfl rfl rfl (y_not rfl) ?_
  refine rj_nil ?_
  refine hK5 _ _ _ ?_
  refine cj_env (eL 0 rfl (eL 1 rfl (eL 31 rfl eN))) ?_
  refine cj_cond rfl (fun hc31 => ?_) (fun hc31 => ?_)
  ·try simp only [dT, dF, nT, nF, tF, fT] at hc31
   refine cj_seq (fun K7 hK7 => ?_)
   refine cj_region ?_
   refine rv0 rfl rfl rfl (y_assign rfl) ?_
   refine rj_nil ?_
   refine hK7 _ _ _ ?_
   refine cj_env (eL 4 rfl eN) ?_
   refine cj_ret ?_
   refine hret _ _ _ ?_
   apply ej_ret Try.results3 (.cons (rv_tmp rfl) .nil) _ [] (by first | exact hR03 | exact hR0f) rfl
   case hp => exact ⟨rfl, rfl⟩
   case hS => (repeat (first|exact zR _|(apply zP;focus (repeat (first|exact zH _|apply zT)))|apply zD|exact zA _ _))
  ·obtain ⟨hsl, hso⟩ : smallA l ∧ smallA over := ⟨hs (by simpa using hc31) l (by simp), hs (by simpa using hc31) over (by simp)⟩
   have hel := entsLen_small hsl
   have heo := entsLen_small hso
   have hll := hsl.1
   have hol := hso.1
   have hlb1 : ∀ e ∈ l, u64B e.1 ∧ e.2.length ≤ 1000000 := fun e he => ⟨(hlb e he).1, by have := hsl.2 e he; omega⟩
   have hob1 : ∀ e ∈ over, u64B e.1 ∧ e.2.length ≤ 1000000 := fun e he => ⟨(hob e he).1, by have := hso.2 e he; omega⟩
   refine cj_skip ?_
   refine hK4 _ _ _ ?_
   refine cj_seq (fun K8 hK8 => ?_)
   refine cj_region ?_
   refine rj_call (wn0 rfl) rfl Try.call6 rfl (new_t) (by (repeat (first|exact zN _|(apply zS;focus (repeat (first|exact zH _|apply zT)))))) (fun _ _ _ _ h => h.elim) ?_
   rintro r R4 L' hR4 ⟨rfl, d1, u1, rfl, rfl⟩
   try simp only [List.cons_append, List.nil_append]
   refine rj_call (wn0 rfl) rfl Try.call6 rfl (new_t) (by (repeat (first|exact zN _|(apply zS;focus (repeat (first|exact zH _|apply zT)))))) (fun _ _ _ _ h => h.elim) ?_
   rintro r R4 L' hR4 ⟨rfl, d2, u2, rfl, rfl⟩
   try simp only [List.cons_append, List.nil_append]
   refine rj_call (wn0 rfl) rfl Try.call6 rfl (new_t) (by (repeat (first|exact zN _|(apply zS;focus (repeat (first|exact zH _|apply zT)))))) (fun _ _ _ _ h => h.elim) ?_
   rintro r R4 L' hR4 ⟨rfl, d3, u3, rfl, rfl⟩
   try simp only [List.cons_append, List.nil_append]
   refine rv0 rfl rfl rfl (y_assign rfl) ?_
   refine rv0 rfl rfl rfl (y_assign rfl) ?_
   refine rv0 rfl rfl rfl (y_assign rfl) ?_
   refine rj_nil ?_
   refine hK8 _ _ _ ?_
   refine cj_env (eL 0 rfl (eL 1 rfl (eL 5 rfl (eL 6 rfl (eL 7 rfl eN))))) ?_
   refine cj_seq (fun K9 hK9 => ?_)
   refine cj_region ?_
   refine rv0 rfl rfl rfl (y_move rfl) ?_
   refine rj_call (wn0 rfl) rfl Try.call7 rfl (openOK_t d1 u1 DK.new 0 LG.new LD.new (by decide)) (by (repeat (first|exact zN _|(apply zS;focus (repeat (first|exact zH _|apply zT)))))) (fun _ _ _ _ h => h.elim) ?_
   rintro x R5 L' hR5 ⟨b1, va1, u4, rfl, hva1, rfl⟩
   try simp only [List.cons_append, List.nil_append]
   refine rv0 rfl rfl rfl (y_move rfl) ?_
   refine rv0 rfl rfl rfl (y_extract rfl rfl) ?_
   refine rv0 rfl rfl rfl (y_extract rfl rfl) ?_
   refine rv0 rfl rfl rfl (y_assign rfl) ?_
   refine rv0 rfl rfl rfl (y_assign rfl) ?_
   refine rj_nil ?_
   refine hK9 _ _ _ ?_
   refine cj_env (eL 0 rfl (eL 1 rfl (eL 5 rfl (eL 6 rfl (eL 7 rfl (eL 8 rfl eN)))))) ?_
   refine cj_seq (fun K10 hK10 => ?_)
   refine cj_region ?_
   refine rv0 rfl rfl rfl (y_move rfl) ?_
   refine rj_call (wn0 rfl) rfl Try.call7 rfl (openOK_t d2 u2 DK.new 0 LG.new LD.new (by decide)) (by (repeat (first|exact zN _|(apply zS;focus (repeat (first|exact zH _|apply zT)))))) (fun _ _ _ _ h => h.elim) ?_
   rintro x R6 L' hR6 ⟨b2, va2, u5, rfl, hva2, rfl⟩
   try simp only [List.cons_append, List.nil_append]
   refine rv0 rfl rfl rfl (y_move rfl) ?_
   refine rv0 rfl rfl rfl (y_extract rfl rfl) ?_
   refine rv0 rfl rfl rfl (y_extract rfl rfl) ?_
   refine rv0 rfl rfl rfl (y_assign rfl) ?_
   refine rv0 rfl rfl rfl (y_assign rfl) ?_
   refine rj_nil ?_
   refine hK10 _ _ _ ?_
   refine cj_env (eL 0 rfl (eL 1 rfl (eL 5 rfl (eL 6 rfl (eL 7 rfl (eL 8 rfl (eL 10 rfl eN))))))) ?_
   refine cj_seq (fun K11 hK11 => ?_)
   refine cj_region ?_
   refine rv0 rfl rfl rfl (y_move rfl) ?_
   refine rj_call (wn0 rfl) rfl Try.call7 rfl (openOK_t d3 u3 DK.new 0 LG.new LD.new (by decide)) (by (repeat (first|exact zN _|(apply zS;focus (repeat (first|exact zH _|apply zT)))))) (fun _ _ _ _ h => h.elim) ?_
   rintro x R7 L' hR7 ⟨b3, va3, u6, rfl, hva3, rfl⟩
   have hR07 := Hp.le_trans hR03 (Hp.le_trans hR5 (Hp.le_trans hR6 hR7))
   try simp only [List.cons_append, List.nil_append]
   refine rv0 rfl rfl rfl (y_move rfl) ?_
   refine rv0 rfl rfl rfl (y_extract rfl rfl) ?_
   refine rv0 rfl rfl rfl (y_extract rfl rfl) ?_
   refine rv0 rfl rfl rfl (y_assign rfl) ?_
   refine rv0 rfl rfl rfl (y_assign rfl) ?_
   refine rj_nil ?_
   refine hK11 _ _ _ ?_
   refine cj_env (eL 0 rfl (eL 1 rfl (eL 5 rfl (eL 6 rfl (eL 7 rfl (eL 8 rfl (eL 10 rfl (eL 12 rfl eN)))))))) ?_
   refine cj_seq (fun K12 hK12 => ?_)
   refine cj_region ?_
   refine rv0 rfl rfl rfl (y_move rfl) ?_
   refine rv0 rfl rfl rfl (y_move rfl) ?_
   refine rj_call (wn0 rfl) rfl Try.call8 rfl (addOK_t b1 d1 va1 u4 (.slice q l.length cap) LG.new DK.new 0 1240 0 l LD.new (by decide) (by decide) (hva1.mono (Hp.le_trans hR6 hR7)) (hl.mono hR07) (by omega) hlb1 (by omega) (by decide) (by simp [LG.new]; omega)) (by (repeat (first|exact zN _|(apply zS;focus (repeat (first|exact zH _|apply zT)))))) (fun _ _ _ _ h => h.elim) ?_
   rintro x R8 L' hR8 ⟨rfl, u7, va4, D1, hD1, hva4, rfl⟩
   rw [gF_add] at hD1 hva4 ⊢
   try simp only [List.cons_append, List.nil_append]
   refine rv0 rfl rfl rfl (y_eql rfl rfl) ?_
   refine rv0 rfl rfl rfl (y_move rfl) ?_
   refine rj_val (wn1 rfl rfl rfl rfl) rfl rfl (y_move rfl) ?_
   refine rj_val (wn1 rfl rfl rfl rfl) rfl rfl (y_move rfl) ?_
   refine rj_call (wn1 rfl rfl rfl rfl) rfl Try.call8 rfl (addOK_t b3 d3 va3 u6 (.slice qo over.length co) LG.new DK.new 0 1240 0 over LD.new (by decide) (by decide) (hva3.mono hR8) (ho.mono (Hp.le_trans hR07 hR8)) (by omega) hob1 (by omega) (by decide) (by simp [LG.new]; omega)) (by (repeat (first|exact zN _|(apply zS;focus (repeat (first|exact zH _|apply zT)))))) (fun _ _ _ _ h => h.elim) ?_
   rintro x R9 L' hR9 ⟨rfl, u8, va5, D4, hD4, hva5, rfl⟩
   rw [gF_add] at hD4 hva5 ⊢
   try simp only [List.cons_append, List.nil_append]
   refine rj_val (wn1 rfl rfl rfl rfl) rfl rfl (y_eql rfl rfl) ?_
   refine rv0 rfl rfl rfl (y_pick_t rfl rfl) ?_
   refine rv0 rfl rfl rfl (y_move rfl) ?_
   refine rj_val (wn1 rfl rfl rfl rfl) rfl rfl (y_move rfl) ?_
   refine rj_val (wn1 rfl rfl rfl rfl) rfl rfl (y_move rfl) ?_
   refine rj_call (wn1 rfl rfl rfl rfl) rfl Try.call8 rfl (addOK_t b3 d3 va5 u8 (.slice q l.length cap) (gF over) D4 1244 1240 0 l hD4 (by decide) (by unfold LG.last gF LG.new; simp) hva5 (hl.mono (Hp.le_trans hR07 (Hp.le_trans hR8 hR9))) (by omega) hlb1 (by omega) (by decide) (by simp [LG.new, gF]; omega)) (by (repeat (first|exact zN _|(apply zS;focus (repeat (first|exact zH _|apply zT)))))) (fun _ _ _ _ h => h.elim) ?_
   rintro x R10 L' hR10 ⟨rfl, u9, va6, D3, hD3, hva6, rfl⟩
   rw [gF_over] at hD3 hva6 ⊢
   have hR710 := Hp.le_trans hR8 (Hp.le_trans hR9 hR10)
   have hR010 := Hp.le_trans hR07 hR710
   try simp only [List.cons_append, List.nil_append]
   refine rj_val (wn1 rfl rfl rfl rfl) rfl rfl ((Yld.to (u := .bool true) (y_eql rfl rfl) rfl)) ?_
   refine rv0 rfl rfl rfl (y_pick_t rfl rfl) ?_
   refine rv0 rfl rfl rfl (y_assign rfl) ?_
   refine rj_nil ?_
   refine hK12 _ _ _ ?_
   refine cj_env (eL 0 rfl (eL 5 rfl (eL 6 rfl (eL 7 rfl (eL 8 rfl (eL 10 rfl (eL 12 rfl (eL 14 rfl eN)))))))) ?_
   refine cj_seq (fun K13 hK13 => ?_)
   refine cj_seq (fun K14 hK14 => ?_)
   refine cj_region ?_
   refine rv0 rfl rfl rfl (y_move rfl) ?_
   first | refine rv0 rfl rfl rfl (y_len_sl Try.underlying22 rfl) ?_ | refine rv0 rfl rfl rfl (y_len_slc Try.underlying22 rfl (by (repeat (first|exact zH _|apply zT));done)) ?_
   refine rv0 rfl rfl rfl (y_move rfl) ?_
   refine rj_nil ?_
   refine hK14 _ _ _ ?_
   refine cj_block ?_
   refine cj_env (E' := (fun (x1 : Nat × Value × Value × DK × Hp) => [(0, .slice q l.length cap), (5, .pointer (some ⟨d1, 0, none⟩)), (6, .pointer (some ⟨d2, 0, none⟩)), (7, .pointer (some ⟨d3, 0, none⟩)), (8, .pointer (some ⟨b1, 0, none⟩)), (10, .pointer (some ⟨b2, 0, none⟩)), (12, .pointer (some ⟨b3, 0, none⟩)), (14, .bool true), (66, .slice q l.length cap), (67, .int .i64 (l.length : Int)), (68, .int .i64 (x1.1 : Int))]) (0, va2, u5, DK.new, R10)) (eC rfl (eC rfl (eC rfl (eC rfl (eC rfl (eC rfl (eC rfl (eC rfl (eC rfl (eC rfl (eC rfl eN))))))))))) ?_
   refine cj_sub (M := (fun (x1 : Nat × Value × Value × DK × Hp) => lgB b2 (some ⟨d2, 0, none⟩) x1.2.1 (gF (l.take x1.1)) :: dkB d2 x1.2.2.1 x1.2.2.2.1 :: dkS x1.2.2.1 x1.2.2.2.1 :: lgB b1 (some ⟨d1, 0, none⟩) va4 (gF l) :: dkB d1 u7 D1 :: dkS u7 D1 :: lgB b3 (some ⟨d3, 0, none⟩) va6 (gF l) :: dkB d3 u9 D3 :: dkS u9 D3 :: F) (0, va2, u5, DK.new, R10)) (by (repeat (first|exact zR _|(apply zP;focus (repeat (first|exact zH _|apply zT)))|apply zD|exact zA _ _))) ?_
   refine cj_loop (fun (x1 : Nat × Value × Value × DK × Hp) => [(0, .slice q l.length cap), (5, .pointer (some ⟨d1, 0, none⟩)), (6, .pointer (some ⟨d2, 0, none⟩)), (7, .pointer (some ⟨d3, 0, none⟩)), (8, .pointer (some ⟨b1, 0, none⟩)), (10, .pointer (some ⟨b2, 0, none⟩)), (12, .pointer (some ⟨b3, 0, none⟩)), (14, .bool true), (66, .slice q l.length cap), (67, .int .i64 (l.length : Int)), (68, .int .i64 (x1.1 : Int))]) (fun (x1 : Nat × Value × Value × DK × Hp) => x1.2.2.2.2) (fun (x1 : Nat × Value × Value × DK × Hp) => lgB b2 (some ⟨d2, 0, none⟩) x1.2.1 (gF (l.take x1.1)) :: dkB d2 x1.2.2.1 x1.2.2.2.1 :: dkS x1.2.2.1 x1.2.2.2.1 :: lgB b1 (some ⟨d1, 0, none⟩) va4 (gF l) :: dkB d1 u7 D1 :: dkS u7 D1 :: lgB b3 (some ⟨d3, 0, none⟩) va6 (gF l) :: dkB d3 u9 D3 :: dkS u9 D3 :: F) (fun (x1 : Nat × Value × Value × DK × Hp) => x1.1 ≤ l.length ∧ LD (1244 * x1.1) (gF (l.take x1.1)) x1.2.2.2.1 ∧ FrX entE x1.2.2.2.2 (l.take x1.1) x1.2.1 ∧ R10.le x1.2.2.2.2) (fun (x1 : Nat × Value × Value × DK × Hp) => l.length - x1.1) (0, va2, u5, DK.new, R10) (⟨by simp, LD.new, hva2.mono (Hp.le_trans hR7 hR710), Hp.le_refl _⟩) ?_
   rintro ⟨i, vb, ub, Db, R11⟩ ⟨hi, hDb, hvb, hR11⟩
   try dsimp only
   dsimp only at hi hDb hvb hR11
   refine cj_seq (fun K15 hK15 => ?_)
   refine cj_region ?_
   refine rv0 rfl rfl rfl (y_lss rfl rfl) ?_
   refine rj_nil ?_
   refine hK15 _ _ _ ?_
   refine cj_seq (fun K16 hK16 => ?_)
   refine cj_cond rfl (fun hc69 => ?_) (fun hc69 => ?_)
   ·try simp only [dT, dF, nT, nF, tF, fT] at hc69
    refine cj_skip ?_
    refine hK16 _ _ _ ?_
    refine cj_seq (fun K18 hK18 => ?_)
    refine cj_block ?_
    refine cj_seq (fun K19 hK19 => ?_)
    refine cj_region ?_
    have hi2 : i < l.length := by (try simp at hc69); omega
    obtain ⟨e, he⟩ : ∃ x, l[i]? = some x := ⟨_, List.getElem?_eq_getElem hi2⟩
    obtain ⟨be, oe, ce, cse, hee, rfl, _, hcell⟩ := (hl.mono (Hp.le_trans hR010 hR11)).at he
    obtain ⟨rfl, rfl⟩ : q = some ⟨be, oe, none⟩ ∧ cap = ce := by cases hee; exact ⟨rfl, rfl⟩
    have hbe := hlb1 e (List.mem_of_getElem? he)
    have hse := hsl.2 e (List.mem_of_getElem? he)
    have hgl := gF_last hi
    refine rv0 rfl rfl rfl (y_move rfl) ?_
    first | refine rv0 rfl rfl rfl (y_indexAddr Try.underlying22 Try.sizeOf37 rfl rfl (by (first | omega | (dsimp only; omega) | (simp; done) | (simp; omega)))) ?_ | refine rv0 rfl rfl rfl (y_index_slc Try.underlying22 Try.sizeOf37 rfl rfl (by (repeat (first|exact zH _|apply zT));done) (by (first | omega | (dsimp only; omega) | (simp; done) | (simp; omega)))) ?_
    refine rv0 rfl rfl rfl ((y_loads_ro ⟨Try.isAgg37, Try.sizeOf37⟩ (vs := entC e) rfl rfl (fun j u hj => hcell j u hj))) ?_
    refine rj_alloc (wn0 rfl) rfl Try.zeroValue37 rfl (fun b16 => ?_)
    refine rv0 rfl rfl rfl (y_assign rfl) ?_
    refine rj_stores_all (vs := entC e) ⟨Try.isAgg37, Try.sizeOf37⟩ rfl (wn0 rfl) rfl rfl (entE.one (R := R11) (x := e) rfl) (by (repeat (first|exact zH _|apply zT));done) rfl ?_
    refine rj_nil ?_
    refine hK19 _ _ _ ?_
    refine cj_env (eL 0 rfl (eL 5 rfl (eL 6 rfl (eL 7 rfl (eL 8 rfl (eL 10 rfl (eL 12 rfl (eL 14 rfl (eL 15 rfl (eL 16 rfl (eL 66 rfl (eL 67 rfl (eL 68 rfl eN))))))))))))) ?_
    refine cj_region ?_
    refine rv0 rfl rfl rfl (y_move rfl) ?_
    refine rv0 rfl rfl rfl (y_move rfl) ?_
    refine rj_val (wn1 rfl rfl rfl rfl) rfl rfl (y_move rfl) ?_
    refine rj_val (wn1 rfl rfl rfl rfl) rfl rfl (y_move rfl) ?_
    refine rj_val (wn1 rfl rfl rfl rfl) rfl rfl ((y_conv_in Try.underlying3 Try.underlying25 rfl (by (simp only [IntKind.min, IntKind.max, IntKind.signed, IntKind.bits, Bool.false_eq_true, ite_false, ite_true]; omega)))) ?_
    refine rj_val (wn1 rfl rfl rfl rfl) rfl rfl ((y_loads_all (vs := entC e) ⟨Try.isAgg37, Try.sizeOf37⟩ rfl rfl (by (repeat (first|exact zH _|apply zT));done))) ?_
    refine rj_buildSlice (sz := 2) (wn1 rfl rfl rfl rfl) rfl Try.underlying22 Try.sizeOf37 Try.zeroValue37 rfl rfl rfl (by decide) (by decide) (fun b79 => ?_)
    refine rj_freeze (e := 37) (sz := 2) (n := 1) (v := .slice (some ⟨b79, 0, none⟩) 1 1) (xs := entsC [e]) (by (repeat (first|exact zH _|apply zT));done) (fun R12 hR12 hfr12 hxl12 => ?_)
    have hv12 := entsFr (l := [e]) hfr12
    refine rj_call (wn1 rfl rfl rfl rfl) rfl Try.call8 rfl (addOK_t b2 d2 vb ub _ (gF (l.take i)) Db (1244 * i) 1240 i [e] hDb (by omega) (by rw [hgl]; exact ⟨by unfold gF LG.new; simp, Int.le_refl _⟩) (hvb.mono hR12) hv12 (by simp) (by simpa using hbe) (by simp [entsLen]; omega) (by decide) (by simp [gF, LG.new]; omega)) (by (repeat (first|exact zN _|(apply zS;focus (repeat (first|exact zH _|apply zT)))))) (fun _ _ _ _ h => h.elim) ?_
    rintro x R13 L' hR13 ⟨rfl, ub2, vb2, Db2, hDb2, hvb2, rfl⟩
    rw [gF_next he] at hDb2 hvb2 ⊢
    rw [show 1244 * i + 4 + 1240 = 1244 * (i + 1) by omega] at hDb2
    try simp only [List.cons_append, List.nil_append]
    refine rj_val (wn1 rfl rfl rfl rfl) rfl rfl ((Yld.to (u := .bool true) (y_eql rfl rfl) rfl)) ?_
    refine rv0 rfl rfl rfl (y_pick_t rfl rfl) ?_
    refine rv0 rfl rfl rfl (y_assign rfl) ?_
    refine rj_nil ?_
    refine hK18 _ _ _ ?_
    refine cj_env (eL 0 rfl (eL 5 rfl (eL 6 rfl (eL 7 rfl (eL 8 rfl (eL 10 rfl (eL 12 rfl (eL 14 rfl (eL 66 rfl (eL 67 rfl (eL 68 rfl eN))))))))))) ?_
    refine cj_region ?_
    first | refine rv0 rfl rfl rfl (y_add64 rfl rfl (by (first | omega | (dsimp only; omega) | (simp; done) | (simp; omega)))) ?_ | refine rv0 rfl rfl rfl (y_add rfl rfl) ?_
    refine rv0 rfl rfl rfl (y_move rfl) ?_
    refine rj_nil ?_
    refine ej_on (q' := roundK _ _ _ _ _ _ _) rfl ?_
    refine ej_round ((i + 1, vb2, ub2, Db2, R13)) (⟨by dsimp only; omega, hDb2, hvb2, Hp.le_trans hR11 (Hp.le_trans hR12 hR13)⟩) (by dsimp only; omega) (eC rfl (eC rfl (eC rfl (eC rfl (eC rfl (eC rfl (eC rfl (eC rfl (eC rfl (eC rfl (eC rfl eN))))))))))) rfl (by (repeat (first|exact zR _|(apply zP;focus (repeat (first|exact zH _|apply zT)))|apply zD|exact zA _ _)))
   ·try simp only [dT, dF, nT, nF, tF, fT] at hc69
    refine cj_exit ?_
    refine hK13 _ _ _ ?_
    refine cj_env (eL 0 rfl (eL 5 rfl (eL 6 rfl (eL 7 rfl (eL 8 rfl (eL 10 rfl (eL 12 rfl (eL 14 rfl eN)))))))) ?_
    refine cj_seq (fun K20 hK20 => ?_)
    refine cj_seq (fun K21 hK21 => ?_)
    refine cj_region ?_
    obtain rfl : i = l.length := by (try simp at hc69); omega
    rw [List.take_length] at hDb hvb ⊢
    have hR0b := Hp.le_trans hR010 hR11
    refine rv0 rfl rfl rfl (y_move rfl) ?_
    refine rv0 rfl rfl rfl (y_not rfl) ?_
    refine rj_nil ?_
    refine hK21 _ _ _ ?_
    refine cj_cond_f rfl ?_
    refine cj_skip ?_
    refine hK20 _ _ _ ?_
    refine cj_env (eL 0 rfl (eL 5 rfl (eL 6 rfl (eL 7 rfl (eL 8 rfl (eL 10 rfl (eL 12 rfl eN))))))) ?_
    refine cj_seq (fun K22 hK22 => ?_)
    refine cj_region ?_
    refine rv0 rfl rfl rfl (y_call Try.call9 rfl (rlNew_q) (by (repeat (first|exact zN _|(apply zS;focus (repeat (first|exact zH _|apply zT))))))) ?_
    refine rv0 rfl rfl rfl (y_move rfl) ?_
    refine rj_call (wn0 rfl) rfl Try.call10 rfl (rlAdd_t (.slice none 0 0) (.slice q l.length cap) LG.new 0 l LG.new_ok (by unfold u64B; decide) FrX.nil (hl.mono hR0b) (by omega)) (by (repeat (first|exact zN _|(apply zS;focus (repeat (first|exact zH _|apply zT)))))) (fun _ _ _ _ h => h.elim) ?_
    rintro x R14 L' hR14 ⟨⟨vw, rfl, hvw⟩, rfl⟩
    rw [gF_addR] at hvw ⊢
    dsimp only at hvw ⊢
    have hgF := hD1.okG
    try simp only [List.cons_append, List.nil_append]
    refine rv0 rfl rfl rfl (y_move rfl) ?_
    refine rv0 rfl rfl rfl (y_extract rfl rfl) ?_
    refine rv0 rfl rfl rfl (y_extract rfl rfl) ?_
    refine rj_alloc (wn0 rfl) rfl Try.zeroValue39 rfl (fun b17 => ?_)
    refine rj_stores_all (vs := rlC vw (gF l)) ⟨Try.isAgg39, Try.sizeOf39⟩ rfl (wn0 rfl) rfl rfl (rlC_one (gF l) hvw.one) (by (repeat (first|exact zH _|apply zT));done) rfl ?_
    refine rv0 rfl rfl rfl (y_assign rfl) ?_
    refine rj_nil ?_
    refine hK22 _ _ _ ?_
    refine cj_env (eL 5 rfl (eL 6 rfl (eL 7 rfl (eL 8 rfl (eL 10 rfl (eL 12 rfl (eL 17 rfl eN))))))) ?_
    refine cj_seq (fun K23 hK23 => ?_)
    refine cj_seq (fun K24 hK24 => ?_)
    refine cj_region ?_
    refine rv0 rfl rfl rfl (y_move rfl) ?_
    refine rv0 rfl rfl rfl (y_move rfl) ?_
    refine rv0 rfl rfl rfl (y_move rfl) ?_
    refine rj_buildSlice (sz := 1) (wn0 rfl) rfl Try.underlying43 Try.sizeOf29 Try.zeroValue29 rfl rfl rfl (by decide) (by decide) (fun b95 => ?_)
    refine rj_freeze (e := 29) (sz := 1) (n := 3) (v := .slice (some ⟨b95, 0, none⟩) 3 3) (xs := [.pointer (some ⟨d1, 0, none⟩), .pointer (some ⟨d2, 0, none⟩), .pointer (some ⟨d3, 0, none⟩)]) (by (repeat (first|exact zH _|apply zT));done) (fun R15 hR15 hfr15 hxl15 => ?_)
    first | refine rv0 rfl rfl rfl (y_len_sl Try.underlying43 rfl) ?_ | refine rv0 rfl rfl rfl (y_len_slc Try.underlying43 rfl (by (repeat (first|exact zH _|apply zT));done)) ?_
    refine rv0 rfl rfl rfl (y_move rfl) ?_
    refine rj_nil ?_
    refine hK24 _ _ _ ?_
    refine cj_env (eL 8 rfl (eL 10 rfl (eL 12 rfl (eL 17 rfl (eL 95 rfl (eL 96 rfl (eL 97 rfl eN))))))) ?_
    refine cj_block ?_
    refine cj_env (E' := (fun (x2 : Nat × Value × Value × Value × Hp) => [(8, .pointer (some ⟨b1, 0, none⟩)), (10, .pointer (some ⟨b2, 0, none⟩)), (12, .pointer (some ⟨b3, 0, none⟩)), (17, .pointer (some ⟨b17, 0, none⟩)), (95, .slice (some ⟨b95, 0, none⟩) 3 3), (96, .int .i64 3), (97, .int .i64 (x2.1 : Int))]) (0, u7, ub, u9, R15)) (eC rfl (eC rfl (eC rfl (eC rfl (eC rfl (eC rfl (eC rfl eN))))))) ?_
    refine cj_sub (M := (fun (x2 : Nat × Value × Value × Value × Hp) => dkB d1 x2.2.1 D1 :: dkS x2.2.1 D1 :: dkB d2 x2.2.2.1 Db :: dkS x2.2.2.1 Db :: dkB d3 x2.2.2.2.1 D3 :: dkS x2.2.2.2.1 D3 :: lgB b1 (some ⟨d1, 0, none⟩) va4 (gF l) :: lgB b2 (some ⟨d2, 0, none⟩) vb (gF l) :: lgB b3 (some ⟨d3, 0, none⟩) va6 (gF l) :: blk b17 (rlC vw (gF l)) 39 :: F) (0, u7, ub, u9, R15)) (by (repeat (first|exact zR _|(apply zP;focus (repeat (first|exact zH _|apply zT)))|apply zD|exact zA _ _))) ?_
    refine cj_loop (fun (x2 : Nat × Value × Value × Value × Hp) => [(8, .pointer (some ⟨b1, 0, none⟩)), (10, .pointer (some ⟨b2, 0, none⟩)), (12, .pointer (some ⟨b3, 0, none⟩)), (17, .pointer (some ⟨b17, 0, none⟩)), (95, .slice (some ⟨b95, 0, none⟩) 3 3), (96, .int .i64 3), (97, .int .i64 (x2.1 : Int))]) (fun (x2 : Nat × Value × Value × Value × Hp) => x2.2.2.2.2) (fun (x2 : Nat × Value × Value × Value × Hp) => dkB d1 x2.2.1 D1 :: dkS x2.2.1 D1 :: dkB d2 x2.2.2.1 Db :: dkS x2.2.2.1 Db :: dkB d3 x2.2.2.2.1 D3 :: dkS x2.2.2.2.1 D3 :: lgB b1 (some ⟨d1, 0, none⟩) va4 (gF l) :: lgB b2 (some ⟨d2, 0, none⟩) vb (gF l) :: lgB b3 (some ⟨d3, 0, none⟩) va6 (gF l) :: blk b17 (rlC vw (gF l)) 39 :: F) (fun (x2 : Nat × Value × Value × Value × Hp) => x2.1 ≤ 3 ∧ R15.le x2.2.2.2.2) (fun (x2 : Nat × Value × Value × Value × Hp) => 3 - x2.1) (0, u7, ub, u9, R15) (⟨by simp, Hp.le_refl _⟩) ?_
    rintro ⟨k, w1, w2, w3, R16⟩ ⟨hk, hR16⟩
    try dsimp only
    dsimp only at hk hR16
    refine cj_seq (fun K25 hK25 => ?_)
    refine cj_region ?_
    refine rv0 rfl rfl rfl (y_lss rfl rfl) ?_
    refine rj_nil ?_
    refine hK25 _ _ _ ?_
    refine cj_seq (fun K26 hK26 => ?_)
    refine cj_cond rfl (fun hc98 => ?_) (fun hc98 => ?_)
    ·try simp only [dT, dF, nT, nF, tF, fT] at hc98
     refine cj_skip ?_
     refine hK26 _ _ _ ?_
     refine cj_seq (fun K28 hK28 => ?_)
     refine cj_block ?_
     refine cj_seq (fun K29 hK29 => ?_)
     have hk3 : k < 3 := by (try simp at hc98); omega
     obtain ⟨dk, uk, Dk, A1, A2, A3, A4, hpk, hLk, hin, hout⟩ := three w1 w2 w3 (hD1.mono (show 0 + 4 + 1240 ≤ 20000 by decide)) (hDb.mono (show 1244 * l.length ≤ 20000 by omega)) (hD3.mono (show 1244 + 4 + 1240 ≤ 20000 by decide)) hk3
     refine cj_sub (hin _) ?_
     refine cj_region ?_
     first | refine rv0 rfl rfl rfl (y_indexAddr Try.underlying43 Try.sizeOf29 rfl rfl (by (first | omega | (dsimp only; omega) | (simp; done) | (simp; omega)))) ?_ | refine rv0 rfl rfl rfl (y_index_slc Try.underlying43 Try.sizeOf29 rfl rfl (by (repeat (first|exact zH _|apply zT));done) (by (first | omega | (dsimp only; omega) | (simp; done) | (simp; omega)))) ?_
     refine rv0 rfl rfl rfl ((y_load_ro ⟨Try.isAgg29, Try.sizeOf29⟩ rfl (by rw [show 0 + ((k : Nat) : Int).toNat * 1 = 0 + k by simp]; exact cell_mono hR16 (froz_cell hfr15 hpk)))) ?_
     refine rv0 rfl rfl rfl (y_assign rfl) ?_
     refine rj_nil ?_
     refine hK29 _ _ _ ?_
     refine cj_env (eL 8 rfl (eL 10 rfl (eL 12 rfl (eL 17 rfl (eL 20 rfl (eL 95 rfl (eL 96 rfl (eL 97 rfl eN)))))))) ?_
     refine cj_seq (fun K30 hK30 => ?_)
     refine cj_region ?_
     refine rv0 rfl rfl rfl (y_move rfl) ?_
     refine rj_call (wn0 rfl) rfl Try.call11 rfl (crashOK_t dk uk Dk 20000 (gF l) hLk (by decide)) (by (repeat (first|exact zN _|(apply zS;focus (repeat (first|exact zH _|apply zT)))))) (fun _ _ _ _ h => h.elim) ?_
     rintro x R17 L' hR17 ⟨uk2, rfl⟩
     try simp only [List.cons_append, List.nil_append]
     refine rj_nil ?_
     refine hK30 _ _ _ ?_
     refine cj_seq (fun K31 hK31 => ?_)
     refine cj_region ?_
     refine rv0 rfl rfl rfl (y_move rfl) ?_
     refine rj_call (wn0 rfl) rfl Try.call7 rfl (openOK_t dk uk2 Dk 20000 (gF l) hLk (by decide)) (by (repeat (first|exact zN _|(apply zS;focus (repeat (first|exact zH _|apply zT)))))) (fun _ _ _ _ h => h.elim) ?_
     rintro x R18 L' hR18 ⟨bx, vx, uk3, rfl, hvx, rfl⟩
     try simp only [List.cons_append, List.nil_append]
     refine rv0 rfl rfl rfl (y_move rfl) ?_
     refine rv0 rfl rfl rfl (y_extract rfl rfl) ?_
     refine rv0 rfl rfl rfl (y_extract rfl rfl) ?_
     refine rv0 rfl rfl rfl (y_assign rfl) ?_
     refine rv0 rfl rfl rfl (y_assign rfl) ?_
     refine rj_nil ?_
     refine hK31 _ _ _ ?_
     refine cj_env (eL 8 rfl (eL 10 rfl (eL 12 rfl (eL 17 rfl (eL 21 rfl (eL 22 rfl (eL 95 rfl (eL 96 rfl (eL 97 rfl eN))))))))) ?_
     refine cj_seq (fun K32 hK32 => ?_)
     refine cj_region ?_
     refine rv0 rfl rfl rfl (y_move rfl) ?_
     refine rv0 rfl rfl rfl (y_neq rfl rfl) ?_
     refine rv0 rfl rfl rfl (y_move rfl) ?_
     refine rj_val (wn1 rfl rfl rfl rfl) rfl rfl (y_move rfl) ?_
     refine rj_val (wn1 rfl rfl rfl rfl) rfl rfl ((y_loads_all (vs := rlC vw (gF l)) ⟨Try.isAgg39, Try.sizeOf39⟩ rfl rfl (by (repeat (first|exact zH _|apply zT));done))) ?_
     refine rj_call (wn1 rfl rfl rfl rfl) rfl Try.call12 rfl (holds_q bx (some ⟨dk, 0, none⟩) vx vw (gF l) hgF hvx (hvw.mono (Hp.le_trans hR15 (Hp.le_trans hR16 (Hp.le_trans hR17 hR18))))) (by (repeat (first|exact zN _|(apply zS;focus (repeat (first|exact zH _|apply zT)))))) (fun _ _ _ _ h => h.elim) ?_
     rintro x R19 L' hR19 ⟨_, rfl, rfl⟩
     try simp only [List.cons_append, List.nil_append]
     refine rj_val (wn1 rfl rfl rfl rfl) rfl rfl (y_not rfl) ?_
     refine rv0 rfl rfl rfl (y_pick_f rfl rfl) ?_
     refine rj_nil ?_
     refine hK32 _ _ _ ?_
     refine cj_env (eL 8 rfl (eL 10 rfl (eL 12 rfl (eL 17 rfl (eL 95 rfl (eL 96 rfl (eL 97 rfl (eL 115 rfl eN)))))))) ?_
     refine cj_cond_f rfl ?_
     refine cj_skip ?_
     refine hK28 _ _ _ ?_
     obtain ⟨w1', w2', w3', hb⟩ := hout uk3
     refine cj_sub (M := dkB dk uk3 Dk :: dkS uk3 Dk :: A1 :: A2 :: A3 :: A4 :: _) (by (repeat (first|exact zR _|(apply zP;focus (repeat (first|exact zH _|apply zT)))|apply zD|exact zA _ _))) ?_
     refine cj_sub (hb _) ?_
     refine cj_region ?_
     first | refine rv0 rfl rfl rfl (y_add64 rfl rfl (by (first | omega | (dsimp only; omega) | (simp; done) | (simp; omega)))) ?_ | refine rv0 rfl rfl rfl (y_add rfl rfl) ?_
     refine rv0 rfl rfl rfl (y_move rfl) ?_
     refine rj_nil ?_
     refine ej_on (q' := roundK _ _ _ _ _ _ _) rfl ?_
     refine ej_round ((k + 1, w1', w2', w3', R19)) (⟨by dsimp only; omega, Hp.le_trans hR16 (Hp.le_trans hR17 (Hp.le_trans hR18 hR19))⟩) (by dsimp only; omega) (eC rfl (eC rfl (eC rfl (eC rfl (eC rfl (eC rfl (eC rfl eN))))))) rfl (by (repeat (first|exact zR _|(apply zP;focus (repeat (first|exact zH _|apply zT)))|apply zD|exact zA _ _)))
    ·try simp only [dT, dF, nT, nF, tF, fT] at hc98
     refine cj_exit ?_
     refine hK23 _ _ _ ?_
     refine cj_env (eL 8 rfl (eL 10 rfl (eL 12 rfl (eL 17 rfl eN)))) ?_
     refine cj_seq (fun K33 hK33 => ?_)
     refine cj_region ?_
     have hRw := Hp.le_trans hR15 hR16
     have hRx := Hp.le_trans hR14 hRw
     refine rv0 rfl rfl rfl (y_move rfl) ?_
     refine rv0 rfl rfl rfl ((y_loads_all (vs := rlC vw (gF l)) ⟨Try.isAgg39, Try.sizeOf39⟩ rfl rfl (by (repeat (first|exact zH _|apply zT));done))) ?_
     refine rj_call (wn0 rfl) rfl Try.call12 rfl (holds_q b1 (some ⟨d1, 0, none⟩) va4 vw (gF l) hgF (hva4.mono (Hp.le_trans (Hp.le_trans hR9 hR10) (Hp.le_trans hR11 hRx))) (hvw.mono hRw)) (by (repeat (first|exact zN _|(apply zS;focus (repeat (first|exact zH _|apply zT)))))) (fun _ _ _ _ h => h.elim) ?_
     rintro x R20 L' hR20 ⟨_, rfl, rfl⟩
     try simp only [List.cons_append, List.nil_append]
     refine rv0 rfl rfl rfl (y_move rfl) ?_
     refine rj_val (wn1 rfl rfl rfl rfl) rfl rfl (y_move rfl) ?_
     refine rj_val (wn1 rfl rfl rfl rfl) rfl rfl ((y_loads_all (vs := rlC vw (gF l)) ⟨Try.isAgg39, Try.sizeOf39⟩ rfl rfl (by (repeat (first|exact zH _|apply zT));done))) ?_
     refine rj_call (wn1 rfl rfl rfl rfl) rfl Try.call12 rfl (holds_q b2 (some ⟨d2, 0, none⟩) vb vw (gF l) hgF (hvb.mono (Hp.le_trans hRx hR20)) (hvw.mono (Hp.le_trans hRw hR20))) (by (repeat (first|exact zN _|(apply zS;focus (repeat (first|exact zH _|apply zT)))))) (fun _ _ _ _ h => h.elim) ?_
     rintro x R21 L' hR21 ⟨_, rfl, rfl⟩
     try simp only [List.cons_append, List.nil_append]
     refine rv0 rfl rfl rfl (y_pick_t rfl rfl) ?_
     refine rv0 rfl rfl rfl (y_move rfl) ?_
     refine rj_val (wn1 rfl rfl rfl rfl) rfl rfl (y_move rfl) ?_
     refine rj_val (wn1 rfl rfl rfl rfl) rfl rfl ((y_loads_all (vs := rlC vw (gF l)) ⟨Try.isAgg39, Try.sizeOf39⟩ rfl rfl (by (repeat (first|exact zH _|apply zT));done))) ?_
     refine rj_call (wn1 rfl rfl rfl rfl) rfl Try.call12 rfl (holds_q b3 (some ⟨d3, 0, none⟩) va6 vw (gF l) hgF (hva6.mono (Hp.le_trans hR11 (Hp.le_trans hRx (Hp.le_trans hR20 hR21)))) (hvw.mono (Hp.le_trans hRw (Hp.le_trans hR20 hR21)))) (by (repeat (first|exact zN _|(apply zS;focus (repeat (first|exact zH _|apply zT)))))) (fun _ _ _ _ h => h.elim) ?_
     rintro x R22 L' hR22 ⟨_, rfl, rfl⟩
     have hR0f := Hp.le_trans hR0b (Hp.le_trans hRx (Hp.le_trans hR20 (Hp.le_trans hR21 hR22)))
     try simp only [List.cons_append, List.nil_append]
     refine rv0 rfl rfl rfl (y_pick_t rfl rfl) ?_
     refine rv0 rfl rfl rfl (y_assign rfl) ?_
     refine rj_nil ?_
     refine hK33 _ _ _ ?_
     refine cj_env (eL 4 rfl eN) ?_
     refine cj_ret ?_
     refine hret _ _ _ ?_
     apply ej_ret Try.results3 (.cons (rv_tmp rfl) .nil) _ [] (by first | exact hR03 | exact hR0f) rfl
     case hp => exact ⟨rfl, rfl⟩
     case hS => (repeat (first|exact zR _|(apply zP;focus (repeat (first|exact zH _|apply zT)))|apply zD|exact zA _ _))
end V
end Go.Proofs.Ytcgjlhhfldkdaaa
