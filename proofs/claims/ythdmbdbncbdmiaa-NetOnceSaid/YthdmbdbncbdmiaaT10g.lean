/- A message, its node and its bytes, plain: there and back. -/
import Derived.Test.YthdmbdbncbdmiaaT10h
set_option linter.unusedSimpArgs false
set_option linter.unusedVariables false
set_option maxRecDepth 100000
namespace Go.Proofs.Ythdmbdbncbdmiaa
open Go.RowKit
namespace V
theorem entOf_entN (e : Ent) (h : 0 ≤ e.1) : entOf (entN e) = some e := by
  unfold entOf
  rw [if_pos ⟨rfl, rfl⟩]
  show some (((e.1.toNat : Nat) : Int), e.2) = some e
  rw [Int.toNat_of_nonneg h]
theorem entsOf_map : ∀ (l : List Ent), (∀ e ∈ l, 0 ≤ e.1) → entsOf (l.map entN) = some l
  | [], _ => rfl
  | e :: l, h => by
    rw [List.map_cons, entsOf, entOf_entN e (h e (by simp)), entsOf_map l (fun x hx => h x (by simp [hx]))]
theorem msgOfN_msgN {m : Msg} (h : m.Bd) (hb : hasBytes m = true) (h1 : m.kind ≤ 2147483648) (h2 : m.frm < 2147483648) (h3 : m.to < 2147483648) : msgOfN (msgN m) = some m := by
  have hb' : 0 ≤ m.kind ∧ -1 ≤ m.frm ∧ -1 ≤ m.to := by simpa [hasBytes] using hb
  have k1 := h.term; have k2 := h.index; have k3 := h.logTerm; have k4 := h.commit
  unfold u64B at k1 k2 k3 k4
  unfold msgOfN
  rw [if_pos ⟨rfl, rfl⟩, if_neg]
  · have e8 : (kidN (msgN m) 8).kids = m.es.map entN := rfl
    rw [e8, entsOf_map m.es (fun e he => (h.es e he).1.1)]
    show some _ = some m
    have g0 : (kidN (msgN m) 0).n = m.kind.toNat := rfl
    have g1 : (kidN (msgN m) 1).n = (m.frm + 1).toNat := rfl
    have g2 : (kidN (msgN m) 2).n = (m.to + 1).toNat := rfl
    have g3 : (kidN (msgN m) 3).n = m.term.toNat := rfl
    have g4 : (kidN (msgN m) 4).n = m.index.toNat := rfl
    have g5 : (kidN (msgN m) 5).n = m.logTerm.toNat := rfl
    have g6 : (kidN (msgN m) 6).n = m.commit.toNat := rfl
    have g7 : (kidN (msgN m) 7).n = (okN m.ok).toNat := rfl
    have g9 : (kidN (msgN m) 9).s = m.state := rfl
    rw [g0, g1, g2, g3, g4, g5, g6, g7, g9]
    congr 1
    refine msg_eq ?_ ?_ ?_ ?_ ?_ ?_ ?_ ?_ rfl rfl
    · show ((m.kind.toNat : Nat) : Int) = m.kind; omega
    · show (((m.frm + 1).toNat : Nat) : Int) - 1 = m.frm; omega
    · show (((m.to + 1).toNat : Nat) : Int) - 1 = m.to; omega
    · show ((m.term.toNat : Nat) : Int) = m.term; omega
    · show ((m.index.toNat : Nat) : Int) = m.index; omega
    · show ((m.logTerm.toNat : Nat) : Int) = m.logTerm; omega
    · show ((m.commit.toNat : Nat) : Int) = m.commit; omega
    · show decide ((((okN m.ok).toNat : Nat) : Int) = 1) = m.ok; cases m.ok <;> simp [okN]
  · have g0 : (kidN (msgN m) 0).n = m.kind.toNat := rfl
    have g1 : (kidN (msgN m) 1).n = (m.frm + 1).toNat := rfl
    have g2 : (kidN (msgN m) 2).n = (m.to + 1).toNat := rfl
    have g7 : (kidN (msgN m) 7).n = (okN m.ok).toNat := rfl
    unfold wideN
    rw [g0, g1, g2, g7]
    have : (okN m.ok).toNat ≤ 1 := by cases m.ok <;> simp [okN]
    simp; omega
theorem numN_right (d : Nat) (n : Int) : rightB (d + 1) (numN n) = true := rfl
theorem txtN_right (d : Nat) (s : List UInt8) : rightB (d + 1) (txtN s) = true := rfl
theorem entN_right (d : Nat) (e : Ent) : rightB (d + 2) (entN e) = true := rfl
theorem msgN_right (m : Msg) : rightB 20 (msgN m) = true := by
  have h1 : rightB 19 (.mk 2 0 [] (m.es.map entN)) = true := by
    simp only [rightB]
    rw [if_neg (by decide), if_neg (by decide), if_pos trivial]
    simp only [List.all_map, Bool.and_eq_true, List.all_eq_true]
    exact ⟨by decide, fun e _ => entN_right 16 e⟩
  show (if (2 : Int) = 0 then _ else _) = true
  rw [if_neg (by decide), if_neg (by decide), if_pos rfl]
  simp only [msgKids, List.all_cons, List.all_nil, numN_right, txtN_right, h1]
  decide
theorem write_msg {m : Msg} (h : m.Bd) (hb : hasBytes m = true) (hs : smallB m = true) : writeM (msgN m) = (wr (msgN m), true) := by
  have hc := cost_big2 (msgN_ok h hb) (by have := msg_cost hs; omega)
  unfold writeM
  rw [if_pos ⟨msgN_right m, by omega⟩]
theorem readMsg_bytes {m : Msg} (h : m.Bd) (hb : hasBytes m = true) (hs : smallB m = true) (h1 : m.kind ≤ 2147483648) (h2 : m.frm < 2147483648) (h3 : m.to < 2147483648) : readMsg (bytesM m) = (m, true) ∧ (bytesM m).length ≤ 30000 := by
  have hc := cost_big2 (msgN_ok h hb) (by have := msg_cost hs; omega)
  have e : bytesM m = wr (msgN m) := by unfold bytesM; rw [if_pos hb, write_msg h hb hs]
  rw [e]
  refine ⟨?_, hc.2.2⟩
  unfold readMsg
  rw [readM_wr (msgN_ok h hb) (msgN_right m) (by omega), if_pos rfl, msgOfN_msgN h hb h1 h2 h3]
/-! ### and back -/
theorem plain_num {x : Nd} (h : plainB x = true) (hk : x.kind = 0) : x = numN (x.n : Int) := by
  obtain ⟨k, n, s, l⟩ := x
  have hk' : k = 0 := hk
  subst hk'
  rw [plainB, if_pos rfl] at h
  simp at h
  obtain ⟨rfl, rfl⟩ := h
  show Nd.mk 0 n [] [] = Nd.mk 0 ((n : Int).toNat) [] []
  simp
theorem plain_txt {x : Nd} (h : plainB x = true) (hk : x.kind = 1) : x = txtN x.s := by
  obtain ⟨k, n, s, l⟩ := x
  have hk' : k = 1 := hk
  subst hk'
  rw [plainB, if_neg (by decide), if_pos rfl] at h
  simp at h
  obtain ⟨rfl, rfl⟩ := h
  rfl
theorem plain_list {x : Nd} (h : plainB x = true) (hk : x.kind = 2) : x = .mk 2 0 [] x.kids ∧ ∀ y ∈ x.kids, plainB y = true := by
  obtain ⟨k, n, s, l⟩ := x
  have hk' : k = 2 := hk
  subst hk'
  rw [plainB, if_neg (by decide), if_neg (by decide), if_pos rfl] at h
  simp at h
  obtain ⟨⟨rfl, rfl⟩, h3⟩ := h
  exact ⟨rfl, plainL_iff.1 h3⟩
theorem ent_back {x : Nd} {e : Ent} (h : plainB x = true) (he : entOf x = some e) : x = entN e := by
  unfold entOf at he
  split at he
  · rename_i hc
    obtain ⟨h1, h2⟩ := plain_list h hc.1
    obtain ⟨a0, a1, hl⟩ := two_of hc.2
    rw [hl] at he h2
    have k0 : a0.kind = 0 := by have := hc.2; rw [hl] at this; simp at this; exact this.1
    have k1 : a1.kind = 1 := by have := hc.2; rw [hl] at this; simp at this; exact this.2
    have p0 := plain_num (h2 a0 (by simp)) k0
    have p1 := plain_txt (h2 a1 (by simp)) k1
    simp at he
    subst he
    rw [h1, hl]
    show Nd.mk 2 0 [] [a0, a1] = Nd.mk 2 0 [] [numN (a0.n : Int), txtN a1.s]
    rw [← p0, ← p1]
  · cases he
theorem ents_back : ∀ (l : List Nd) (es : List Ent), (∀ x ∈ l, plainB x = true) → entsOf l = some es → l = es.map entN
  | [], es, _, h => by simp [entsOf] at h; subst h; rfl
  | x :: l, es, hp, h => by
    rw [entsOf] at h
    cases hx : entOf x with
    | none => rw [hx] at h; cases h
    | some e =>
      cases hl : entsOf l with
      | none => rw [hx, hl] at h; cases h
      | some el =>
        rw [hx, hl] at h
        simp at h; subst h
        rw [List.map_cons, ← ents_back l el (fun y hy => hp y (by simp [hy])) hl, ← ent_back (hp x (by simp)) hx]
theorem msg_back {x : Nd} {m : Msg} (h : plainB x = true) (hm : msgOfN x = some m) : x = msgN m ∧ hasBytes m = true ∧ m.kind ≤ 2147483648 ∧ m.frm ≤ 2147483647 ∧ m.to ≤ 2147483647 := by
  unfold msgOfN at hm
  split at hm
  · rename_i hc
    obtain ⟨h1, h2⟩ := plain_list h hc.1
    obtain ⟨a0, a1, a2, a3, a4, a5, a6, a7, a8, a9, hl⟩ := ten_of hc.2
    have hkk := hc.2
    rw [hl] at h2 hkk
    simp [tenK] at hkk
    obtain ⟨k0, k1, k2, k3, k4, k5, k6, k7, k8, k9⟩ := hkk
    split at hm
    · cases hm
    · rename_i hw
      have e0 : kidN x 0 = a0 := by unfold kidN; rw [hl]; rfl
      have e1 : kidN x 1 = a1 := by unfold kidN; rw [hl]; rfl
      have e2 : kidN x 2 = a2 := by unfold kidN; rw [hl]; rfl
      have e3 : kidN x 3 = a3 := by unfold kidN; rw [hl]; rfl
      have e4 : kidN x 4 = a4 := by unfold kidN; rw [hl]; rfl
      have e5 : kidN x 5 = a5 := by unfold kidN; rw [hl]; rfl
      have e6 : kidN x 6 = a6 := by unfold kidN; rw [hl]; rfl
      have e7 : kidN x 7 = a7 := by unfold kidN; rw [hl]; rfl
      have e8 : kidN x 8 = a8 := by unfold kidN; rw [hl]; rfl
      have e9 : kidN x 9 = a9 := by unfold kidN; rw [hl]; rfl
      unfold wideN at hw
      rw [e0, e1, e2, e7] at hw
      rw [e0, e1, e2, e3, e4, e5, e6, e7, e8, e9] at hm
      simp at hw
      obtain ⟨p8, q8⟩ := plain_list (h2 a8 (by simp)) k8
      cases he : entsOf a8.kids with
      | none => rw [he] at hm; cases hm
      | some es =>
        rw [he] at hm
        simp at hm
        subst hm
        have hes := ents_back a8.kids es q8 he
        refine ⟨?_, ?_, ?_, ?_, ?_⟩
        · rw [h1, hl]
          unfold msgN msgKids
          have o7 : ((okN (decide ((a7.n : Int) = 1))) : Int) = (a7.n : Int) := by
            unfold okN
            by_cases h : a7.n = 1
            · rw [h]; rfl
            · have : a7.n = 0 := by omega
              rw [this]; rfl
          simp only
          rw [show (a1.n : Int) - 1 + 1 = a1.n by omega, show (a2.n : Int) - 1 + 1 = a2.n by omega, o7, ← hes, ← p8]
          rw [← plain_num (h2 a0 (by simp)) k0, ← plain_num (h2 a1 (by simp)) k1, ← plain_num (h2 a2 (by simp)) k2, ← plain_num (h2 a3 (by simp)) k3, ← plain_num (h2 a4 (by simp)) k4, ← plain_num (h2 a5 (by simp)) k5, ← plain_num (h2 a6 (by simp)) k6, ← plain_num (h2 a7 (by simp)) k7, ← plain_txt (h2 a9 (by simp)) k9]
        · unfold hasBytes; simp; omega
        · simp only; omega
        · simp only; omega
        · simp only; omega
  · cases hm
theorem ents_len {l : List Nd} {m : Nat} (h : (wrs l).length ≤ m) : l.length ≤ m := by have := wrs_len l; omega
theorem wr_kid {k : Int} {n : Nat} {s : List UInt8} {l : List Nd} (hk : k = 2) {y : Nd} (hy : y ∈ l) : (wr y).length ≤ (wr (.mk k n s l)).length := by
  subst hk
  obtain ⟨i, hi, rfl⟩ := List.getElem_of_mem hy
  have := wrs_le (l := l) (i := i) (x := l[i]) (by simp)
  rw [wr]; simp; omega
theorem wr_txt (s : List UInt8) : s.length ≤ (wr (txtN s)).length := by
  unfold txtN; rw [wr]; simp; omega
theorem okN_n {k : Int} {n : Nat} {s : List UInt8} {l : List Nd} (h : OkN (.mk k n s l)) : n < 18446744073709551616 ∧ ∀ y ∈ l, OkN y := by cases h with | mk h1 h2 => exact ⟨h1, h2⟩
theorem readM_yes2 {s : List UInt8} (h : (readM s).2 = true) : rdM 20 s = some ((readM s).1, []) ∧ s.length ≤ 16777216 := by
  unfold readM at h ⊢
  by_cases hl : s.length > 16777216
  · rw [if_pos hl] at h; cases h
  · rw [if_neg hl] at h ⊢
    cases hr : rdM 20 s with
    | none => rw [hr] at h; cases h
    | some p =>
      obtain ⟨x, r⟩ := p
      rw [hr] at h
      cases r with
      | nil => exact ⟨rfl, by omega⟩
      | cons u t => cases h
theorem ents_nonneg : ∀ (l : List Nd) (es : List Ent), entsOf l = some es → ∀ e ∈ es, 0 ≤ e.1
  | [], es, he => by simp [entsOf] at he; subst he; simp
  | x :: l, es, he => by
    rw [entsOf] at he
    cases hx : entOf x with
    | none => rw [hx] at he; cases he
    | some ex =>
      cases hl : entsOf l with
      | none => rw [hx, hl] at he; cases he
      | some el =>
        rw [hx, hl] at he
        simp at he; subst he
        intro e hmem
        rcases List.mem_cons.1 hmem with rfl | hmem
        · unfold entOf at hx
          split at hx
          · simp at hx; subst hx; simp
          · cases hx
        · exact ents_nonneg l el hl e hmem
theorem read_back {s : List UInt8} (hl : s.length ≤ 2000) (h : (readMsg s).2 = true) : bytesM (readMsg s).1 = s ∧ Fits (readMsg s).1 := by
  unfold readMsg at h ⊢
  cases hr : (readM s).2 with
  | false => rw [hr] at h; cases h
  | true =>
    rw [hr] at h
    simp only [if_true] at h ⊢
    obtain ⟨b1, b2⟩ := readM_yes2 hr
    obtain ⟨c1, c2, c3⟩ := wr_rd 20 _ _ [] b1
    rw [List.append_nil] at c1
    cases hm : msgOfN (readM s).1 with
    | none => rw [hm] at h; cases h
    | some m =>
      simp only
      have hp : plainB (readM s).1 = true := by have := right_plain 20 (readM s).1; rw [c2] at this; simp at this; exact this.2
      obtain ⟨d1, d2, d3, d4, d5⟩ := msg_back hp hm
      rw [d1] at c1 c2 c3
      refine ⟨?_, ?_⟩
      · unfold bytesM
        rw [if_pos d2]
        have : writeM (msgN m) = (wr (msgN m), true) := by unfold writeM; rw [if_pos ⟨c2, by rw [← c1]; omega⟩]
        rw [this, ← c1]
      · have hb' : 0 ≤ m.kind ∧ -1 ≤ m.frm ∧ -1 ≤ m.to := by simpa [hasBytes] using d2
        have hwl : (wr (msgN m)).length ≤ 2000 := by rw [← c1]; exact hl
        obtain ⟨_, ho⟩ := okN_n c3
        have hsz : ∀ y ∈ msgKids m, (wr y).length ≤ 2000 := fun y hy => Nat.le_trans (wr_kid (n := 0) (s := []) rfl hy) hwl
        have hx8 : Nd.mk 2 0 [] (m.es.map entN) ∈ msgKids m := by simp [msgKids]
        obtain ⟨_, ho8⟩ := okN_n (ho _ hx8)
        have nb : ∀ n : Int, 0 ≤ n → numN n ∈ msgKids m → u64B n := fun n hn hy => by have := (okN_n (ho _ hy)).1; exact ⟨hn, by omega⟩
        have h8 := hsz _ hx8
        have hel : m.es.length ≤ 2000 := by
          rw [wr] at h8
          have := wrs_len (m.es.map entN)
          simp at this h8; omega
        have htx : ∀ e ∈ m.es, e.2.length ≤ 2000 := fun e he => by
          have a := wr_kid (k := 2) (n := 0) (s := []) rfl (List.mem_map_of_mem (f := entN) he)
          have b : (wr (txtN e.2)).length ≤ (wr (entN e)).length := wr_kid (k := 2) (n := 0) (s := []) (l := [numN e.1, txtN e.2]) (y := txtN e.2) rfl (by simp)
          have c := wr_txt e.2
          omega
        have hstt : m.state.length ≤ 2000 := Nat.le_trans (wr_txt m.state) (hsz _ (by simp [msgKids]))
        have nonneg : 0 ≤ m.term ∧ 0 ≤ m.index ∧ 0 ≤ m.logTerm ∧ 0 ≤ m.commit ∧ ∀ e ∈ m.es, 0 ≤ e.1 := by
          unfold msgOfN at hm
          split at hm
          · split at hm
            · cases hm
            · cases he : entsOf (kidN (readM s).1 8).kids with
              | none => rw [he] at hm; cases hm
              | some es =>
                rw [he] at hm
                simp at hm
                subst hm
                refine ⟨by simp, by simp, by simp, by simp, ?_⟩
                simp only
                exact ents_nonneg _ _ he
          · cases hm
        obtain ⟨n1, n2, n3, n4, n5⟩ := nonneg
        refine ⟨⟨⟨by omega, by omega⟩, ⟨by omega, by omega⟩, ⟨by omega, by omega⟩, nb _ n1 (by simp [msgKids]), nb _ n2 (by simp [msgKids]), nb _ n3 (by simp [msgKids]), nb _ n4 (by simp [msgKids]), fun e he => ⟨?_, by have := htx e he; simp only [maxLen]; omega⟩, by simp only [maxLen]; omega⟩, by omega, fun e he => by have := htx e he; unfold big; omega, by unfold big; omega⟩
        have := okN_n (ho8 _ (List.mem_map_of_mem (f := entN) he))
        have := (okN_n (this.2 (numN e.1) (by simp))).1
        exact ⟨n5 e he, by have := n5 e he; omega⟩
end V
end Go.Proofs.Ythdmbdbncbdmiaa
