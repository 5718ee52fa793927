/- The law RaftVotes of layer 9, for every input: in one term a node votes for one alone, whatever comes, through crashes at any step of its disk. -/
import Derived.Test.YtjdbigplednihaaGreatWL9Votes3
set_option linter.unusedSimpArgs false
set_option linter.unusedVariables false
set_option maxRecDepth 100000
namespace Go.Proofs.YtjdbigplednihaaGreat
open Go.RowKit
namespace V
set_option maxHeartbeats 4000000
def voteF (S : List (Int × Int)) : Int → Option Value := fun t => (S.find? (fun p => decide (p.1 = t))).map (fun p => Value.int .i64 p.2)
theorem voteF_set {S : List (Int × Int)} {t w : Int} (h : ∀ p ∈ S, p.1 = t → p.2 = w) : fset (voteF S) t (.int .i64 w) = voteF (S ++ [(t, w)]) := by
  funext k
  unfold fset voteF
  rw [List.find?_append]
  by_cases hk : k = t
  · subst hk
    rw [if_pos rfl]
    cases hf : S.find? (fun p => decide (p.1 = k)) with
    | none => simp
    | some p =>
      have h1 := List.find?_some hf
      have h2 := h p (List.mem_of_find?_eq_some hf) (by simpa using h1)
      simp [h2]
  · rw [if_neg hk]
    have : [(t, w)].find? (fun p => decide (p.1 = k)) = none := by simp; omega
    rw [this]
    cases S.find? (fun p => decide (p.1 = k)) <;> rfl
theorem voteF_look (S : List (Int × Int)) (t : Int) : ∃ (old : Int) (there : Bool), Value.tuple #[((voteF S) t).getD (.int .i64 0), .bool ((voteF S) t).isSome] = tupOf [.int .i64 old, .bool there] ∧ (there = true → ∃ p ∈ S, p.1 = t ∧ p.2 = old) := by
  unfold voteF
  cases hf : S.find? (fun p => decide (p.1 = t)) with
  | none => exact ⟨0, false, rfl, fun h => by cases h⟩
  | some p => exact ⟨p.2, true, rfl, fun _ => ⟨p, List.mem_of_find?_eq_some hf, by simpa using List.find?_some hf, rfl⟩⟩
theorem VS.ok {n : Nat} {T I : Int} {A id nn : Nat} {S : List (Int × Int)} {t0 : Int} {x : ND} {D : DK} (h : VS n T I A id nn S t0 x D) : D.ok n := by
  rcases h with ⟨_, _, _, h, _⟩ | ⟨_, h⟩
  · exact h.okD
  · exact h.1
theorem VS.crash {n : Nat} {T I : Int} {A id nn : Nat} {S : List (Int × Int)} {t0 : Int} {x : ND} {D : DK} (h : VS n T I A id nn S t0 x D) (keep : Int) :
    ∃ rs p g, (D.crash keep).ok n ∧ (D.crash keep).b = recsB rs ++ p ∧ torn p ∧ Plays LG.new rs g ∧ PG T I A id nn S t0 g ∧ ((D.crash keep).open rs p).1 = 0 ∧ SD n g ((D.crash keep).open rs p).2 := by
  refine open_x h.ok ?_ keep
  rcases h with ⟨h1, h2, h3, h4, h5, h6⟩ | ⟨_, h⟩
  · exact h4.crash_any (by rw [← h2, ← h3]; exact (LT.rfl h1).pg h5 h6)
  · exact h.2.2
theorem VS.fuel {n : Nat} {T I : Int} {A id nn : Nat} {S : List (Int × Int)} {t0 : Int} {x : ND} {D : DK} (h : VS n T I A id nn S t0 x D) {k : Int} (hk : i64B k) : VS n T I A id nn S t0 x (D.setFuel k) := by
  unfold i64B at hk
  rcases h with ⟨h1, h2, h3, ⟨a1, a2, a3, a4, a5, a6⟩, h5, h6⟩ | ⟨h1, ⟨⟨b1, b2, b3⟩, b4, b5⟩⟩
  · exact .inl ⟨h1, h2, h3, ⟨a1, a2, ⟨by show _ ≤ k; omega, by show k ≤ _; omega, fun h => by have : decide (k ≥ 0) = true := h; show 0 ≤ k; simpa using this⟩, a4, a5, a6⟩, h5, h6⟩
  · exact .inr ⟨h1, ⟨⟨b1, b2, by show _ ≤ k; omega, by show k ≤ _; omega, fun h => by have : decide (k ≥ 0) = true := h; show 0 ≤ k; simpa using this⟩, b4, b5⟩⟩
theorem LIn.again {T I : Int} {A : Nat} {y : ND} (h : LIn T I A y) : LIn T I A (ND.start y.id y.n y.g) :=
  LIn.start h.idn h.term h.vote h.base h.baseT h.last h.state h.alln h.all
theorem PG.start {n : Nat} {T I : Int} {A id nn : Nat} {S : List (Int × Int)} {t0 : Int} {g : LG} {D : DK} (h : PG T I A id nn S t0 g) (hs : SD n g D) : VS n T I A id nn S t0 (ND.start id nn g) D := by
  obtain ⟨y, h1, h2, h3, h4, h5, h6⟩ := h
  have := h1.again
  rw [h2, h3, h4] at this
  exact .inl ⟨this, rfl, rfl, hs, h5, h6⟩
theorem VI.nil (g : LG) : VI [] g := ⟨fun p hp => by simp at hp, fun p hp => by simp at hp, fun p hp => by simp at hp⟩
theorem told_vote {id : Nat} {m : Msg} (h1 : m.kind = 1) (h2 : m.ok = true) : told id m = [(m.term, m.to)] := by unfold told; rw [if_pos ⟨h1, h2⟩]
theorem told_ask {id : Nat} {m : Msg} (h1 : m.kind = 0) : told id m = [(m.term, (id : Int))] := by unfold told; rw [if_neg (by omega), if_pos h1]
theorem tolds_take {id : Nat} {l : List Msg} {k : Nat} {m : Msg} (h : l[k]? = some m) : tolds id (l.take (k + 1)) = tolds id (l.take k) ++ told id m := by
  rw [List.take_add_one, h, tolds_app]
  congr 1
  unfold tolds; simp
theorem vote_one {S : List (Int × Int)} {g : LG} {id : Nat} {l : List Msg} {k : Nat} {m : Msg} {who : Int} (h : VI (S ++ tolds id l) g) (hm : l[k]? = some m) (ht : told id m = [(m.term, who)]) : ∀ p ∈ S ++ tolds id (l.take k), p.1 = m.term → p.2 = who := fun p hp e => by
  have hq : (m.term, who) ∈ S ++ tolds id l := List.mem_append_right _ (tolds_mem.2 ⟨m, List.mem_of_getElem? hm, by rw [ht]; simp⟩)
  have hp2 : p ∈ S ++ tolds id l := by
    rcases List.mem_append.1 hp with hp | hp
    · exact List.mem_append_left _ hp
    · obtain ⟨m1, h1, h2⟩ := tolds_mem.1 hp
      exact List.mem_append_right _ (tolds_mem.2 ⟨m1, List.mem_of_mem_take h1, h2⟩)
  exact h.one p hp2 _ hq e
theorem raftVotes_t {R : Hp} (id n : Int) (h0 : IntKind.i64.min ≤ id ∧ id ≤ IntKind.i64.max) (h1 : IntKind.i64.min ≤ n ∧ n ≤ IntKind.i64.max) (v2 : Value) (ys : List AcY) (h2 : slcR 15 acR R [v2] ys) :
    Tri Tryz.prog 5 [.int .i64 id, .int .i64 n, v2] R [] (fun v R' L' => v = .bool true) := by
  obtain ⟨hf, hbd⟩ := acts_in h2
  obtain ⟨acts, hacts⟩ : ∃ acts, acts = ys.map acOf := ⟨_, rfl⟩
  rw [← hacts] at hf hbd
  obtain ⟨q, cap, rfl, hq1, hq2⟩ := hf.shape
  refine tri_of Tryz.func5 rfl Tryz.ntmps5 rfl (fun σ F Q hret hend hpan => ?_)
  try simp only [cA, nA]
  refine cj_seq fun K1 hK1 => cj_region ?_
  refine Ps ?_
  refine rj_nil (hK1 _ _ _ (cj_seq fun K2 hK2 => cj_seq fun K3 hK3 => cj_region ?_))
  refine Ra Tryz.call7 (awake_t) ?_
  rintro r R1 L' hR1 ⟨rfl, rfl⟩
  try simp only [cA, nA]
  refine Pa (y_not rfl) ?_
  refine rj_nil (hK3 _ _ _ (cj_cond_f rfl (cj_skip (hK2 _ _ _ (cj_seq fun K4 hK4 => cj_seq fun K5 hK5 => cj_region ?_)))))
  refine Pm ?_
  refine Pa (y_lss rfl rfl) ?_
  refine Pm ?_
  refine rj_part 28 rfl (fun hg28 => ?_) (fun hg28 => ?_)
  try simp only [dT, dF, nT, nF, tF, fT] at hg28
  refine Pk ?_
  refine Pk ?_
  refine Pa (y_pick_t rfl rfl) ?_
  refine Pm ?_
  refine Pk ?_
  refine Pk ?_
  refine Pa (y_pick_t rfl rfl) ?_
  refine Pm ?_
  refine Pk ?_
  refine Pk ?_
  refine Pk ?_
  refine Pa (y_pick_t rfl rfl) ?_
  refine Pm ?_
  refine Pk ?_
  refine Pk ?_
  refine Pk ?_
  refine Pa (y_pick_t rfl rfl) ?_
  refine rj_nil (hK5 _ _ _ ?_)
  refine cj_env (eL 0 rfl (eL 1 rfl (eL 2 rfl (eL 45 rfl eN)))) ?_
  refine cj_cond_t rfl (cj_seq fun K6 hK6 => cj_region ?_)
  refine Ps ?_
  refine rj_nil (hK6 _ _ _ (cj_ret (hret _ _ _ ?_)))
  refine Ea Tryz.results5 (.cons (rv_tmp rfl) .nil) [] (by first | exact Hp.le_trans hR13 hR4 | exact hR1 | exact Hp.le_trans hR1 hR2 | assumption) ?_
  exact rfl
  have f1 : ¬ n < 1 := by simpa using hg28
  refine Pb (y_move rfl) ?_
  refine Pb (y_gtr rfl rfl) ?_
  refine Pa (y_pick_f rfl rfl) ?_
  refine Pm ?_
  refine rj_part 32 rfl (fun hg32 => ?_) (fun hg32 => ?_)
  try simp only [dT, dF, nT, nF, tF, fT] at hg32
  refine Pk ?_
  refine Pk ?_
  refine Pa (y_pick_t rfl rfl) ?_
  refine Pm ?_
  refine Pk ?_
  refine Pk ?_
  refine Pk ?_
  refine Pa (y_pick_t rfl rfl) ?_
  refine Pm ?_
  refine Pk ?_
  refine Pk ?_
  refine Pk ?_
  refine Pa (y_pick_t rfl rfl) ?_
  refine rj_nil (hK5 _ _ _ ?_)
  refine cj_env (eL 0 rfl (eL 1 rfl (eL 2 rfl (eL 45 rfl eN)))) ?_
  refine cj_cond_t rfl (cj_seq fun K7 hK7 => cj_region ?_)
  refine Ps ?_
  refine rj_nil (hK7 _ _ _ (cj_ret (hret _ _ _ ?_)))
  refine Ea Tryz.results5 (.cons (rv_tmp rfl) .nil) [] (by first | exact Hp.le_trans hR13 hR4 | exact hR1 | exact Hp.le_trans hR1 hR2 | assumption) ?_
  exact rfl
  first|(have f2 : ¬ n > 9 := by simpa using hg32)|skip
  refine Pb (y_move rfl) ?_
  refine Pb (y_lss rfl rfl) ?_
  refine Pa (y_pick_f rfl rfl) ?_
  refine Pm ?_
  refine rj_part 36 rfl (fun hg36 => ?_) (fun hg36 => ?_)
  try simp only [dT, dF, nT, nF, tF, fT] at hg36
  refine Pk ?_
  refine Pk ?_
  refine Pk ?_
  refine Pa (y_pick_t rfl rfl) ?_
  refine Pm ?_
  refine Pk ?_
  refine Pk ?_
  refine Pk ?_
  refine Pa (y_pick_t rfl rfl) ?_
  refine rj_nil (hK5 _ _ _ (cj_cond_t rfl (cj_seq fun K8 hK8 => cj_region ?_)))
  refine Ps ?_
  refine rj_nil (hK8 _ _ _ (cj_ret (hret _ _ _ ?_)))
  refine Ea Tryz.results5 (.cons (rv_tmp rfl) .nil) [] (by first | exact Hp.le_trans hR13 hR4 | exact hR1 | exact Hp.le_trans hR1 hR2 | assumption) ?_
  exact rfl
  first|(have f3 : ¬ id < 0 := by simpa using hg36)|skip
  refine Pb (y_move rfl) ?_
  refine Pb (y_move rfl) ?_
  refine Pb (y_geq rfl rfl) ?_
  refine Pa (y_pick_f rfl rfl) ?_
  refine Pm ?_
  refine rj_part 41 rfl (fun hg41 => ?_) (fun hg41 => ?_)
  try simp only [dT, dF, nT, nF, tF, fT] at hg41
  refine Pk ?_
  refine Pk ?_
  refine Pk ?_
  refine Pa (y_pick_t rfl rfl) ?_
  refine rj_nil (hK5 _ _ _ ?_)
  refine cj_env (eL 0 rfl (eL 1 rfl (eL 2 rfl (eL 45 rfl eN)))) ?_
  refine cj_cond_t rfl (cj_seq fun K9 hK9 => cj_region ?_)
  refine Ps ?_
  refine rj_nil (hK9 _ _ _ (cj_ret (hret _ _ _ ?_)))
  refine Ea Tryz.results5 (.cons (rv_tmp rfl) .nil) [] (by first | exact Hp.le_trans hR13 hR4 | exact hR1 | exact Hp.le_trans hR1 hR2 | assumption) ?_
  exact rfl
  first|(have f4 : ¬ id ≥ n := by simpa using hg41)|skip
  refine Pb (y_move rfl) ?_
  refine rj_call (wn1 rfl rfl rfl rfl) rfl Tryz.call15 rfl (small9_t _ acts (hf.mono hR1) 40) sp_ (fun _ _ _ _ h => h.elim) ?_
  rintro x R2 L' hR2 ⟨⟨s, rfl, hs⟩, rfl⟩
  try simp only [cA, nA]
  refine Pb (y_not rfl) ?_
  refine Pa (y_pick_f rfl rfl) ?_
  refine rj_nil (hK5 _ _ _ ?_)
  refine cj_cond rfl (fun hc45 => ?_) (fun hc45 => ?_)
  try simp only [dT, dF, nT, nF, tF, fT] at hc45
  refine cj_seq fun K11 hK11 => cj_region ?_
  refine Ps ?_
  refine rj_nil (hK11 _ _ _ (cj_ret (hret _ _ _ ?_)))
  refine Ea Tryz.results5 (.cons (rv_tmp rfl) .nil) [] (by first | exact Hp.le_trans hR13 hR4 | exact hR1 | exact Hp.le_trans hR1 hR2 | assumption) ?_
  exact rfl
  obtain ⟨hlen, hsm⟩ := hs (by simpa using hc45)
  have hR12 := Hp.le_trans hR1 hR2
  have hidn : (0 ≤ id ∧ id < n) ∧ (1 ≤ n ∧ n ≤ 9) := by omega
  obtain ⟨idn, rfl⟩ : ∃ k : Nat, id = (k : Int) := ⟨id.toNat, by omega⟩
  obtain ⟨nn, rfl⟩ : ∃ k : Nat, n = (k : Int) := ⟨n.toNat, by omega⟩
  have hin : idn < nn ∧ nn ≤ 9 := by omega
  refine cj_skip (hK4 _ _ _ (cj_seq fun K12 hK12 => cj_region ?_))
  refine Pm ?_
  refine Pm ?_
  refine Ra Tryz.call8 (lnStart_t idn nn hin) ?_
  rintro r R3 L' hR3 ⟨bp, b, v, w, rfl, hv, hw, rfl⟩
  have hR13 := Hp.le_trans hR12 hR3
  try simp only [cA, nA]
  refine Pm ?_
  refine Pa (y_extract rfl rfl) ?_
  refine Pa (y_extract rfl rfl) ?_
  refine Ps ?_
  refine Ps ?_
  refine rj_nil (hK12 _ _ _ (cj_seq fun K13 hK13 => cj_seq fun K14 hK14 => cj_region ?_))
  refine Pm ?_
  refine Pa (y_not rfl) ?_
  refine rj_nil (hK14 _ _ _ (cj_cond_f rfl (cj_skip (hK13 _ _ _ (cj_seq fun K15 hK15 => cj_region ?_)))))
  refine rj_makeMap (ik := .u64) (wn0 rfl) rfl (fun bm => ?_)
  refine Ps ?_
  refine rj_nil (hK15 _ _ _ (cj_seq fun K16 hK16 => cj_region ?_))
  refine rj_turn (A := mapF bm .u64 (fun _ => none) 0) (B := mapF bm .u64 (voteF []) 0) fd_ (fun h hh => hh) ?_
  refine Ps ?_
  refine rj_nil (hK16 _ _ _ (cj_seq fun K17 hK17 => cj_region ?_))
  refine Pm ?_
  refine Pa (y_nilCheck rfl) ?_
  refine Pa (Ga Tryz.underlying39 Tryz.sizeOf30) ?_
  first | refine Pa (La o30) ?_ | refine Pa (Ls o30) ?_
  refine Ps ?_
  refine rj_nil (hK17 _ _ _ ?_)
  refine cj_env (eL 0 rfl (eL 1 rfl (eL 2 rfl (eL 7 rfl (eL 9 rfl (eL 10 rfl (eL 11 rfl eN))))))) ?_
  refine cj_seq fun K18 hK18 => cj_seq fun K19 hK19 => cj_region ?_
  refine Pm ?_
  first | refine Pa (y_len_sl Tryz.underlying50 rfl) ?_ | refine Pa (y_len_slc Tryz.underlying50 rfl fd_) ?_
  refine Pm ?_
  refine rj_nil (hK19 _ _ _ (cj_block ?_))
  refine cj_env (E' := (fun (x1 : (Nat × ND × Nat × Nat × NV × DK) × (List (Int × Int) × Nat × Int) × Hp) => [(0, .int .i64 (idn : Int)), (1, .int .i64 (nn : Int)), (7, .pointer (some ⟨bp, 0, none⟩)), (9, .map (some bm)), (10, .int .u64 x1.2.1.2.2), (11, .pointer (some ⟨x1.1.2.2.1, 0, none⟩)), (59, .slice q acts.length cap), (60, .int .i64 (acts.length : Int)), (61, .int .i64 (x1.1.1 : Int))]) ((0, ND.start idn nn LG.new, b.x, b.l, v, DK.new), ([], 0, 0), R3)) (eC rfl (eC rfl (eC rfl (eC rfl (eC rfl (eC rfl (eC rfl (eC rfl (eC rfl eN))))))))) ?_
  refine cj_sub (M := (fun (x1 : (Nat × ND × Nat × Nat × NV × DK) × (List (Int × Int) × Nat × Int) × Hp) => lnB bp b.d b.x w (ND.start idn nn LG.new) :: ndB ⟨x1.1.2.2.1, x1.1.2.2.2.1, b.d⟩ x1.1.2.2.2.2.1 x1.1.2.1 :: lgN ⟨x1.1.2.2.1, x1.1.2.2.2.1, b.d⟩ x1.1.2.2.2.2.1 x1.1.2.1 :: dkB b.d x1.1.2.2.2.2.1.u x1.1.2.2.2.2.2 :: dkS x1.1.2.2.2.2.1.u x1.1.2.2.2.2.2 :: prA x1.1.2.2.2.2.1 x1.1.2.1 :: mpA x1.1.2.2.2.2.1.vm x1.1.2.1.votes :: mapF bm .u64 (voteF x1.2.1.1) x1.2.1.2.1 :: F) ((0, ND.start idn nn LG.new, b.x, b.l, v, DK.new), ([], 0, 0), R3)) sb_ ?_
  refine cj_loop (fun (x1 : (Nat × ND × Nat × Nat × NV × DK) × (List (Int × Int) × Nat × Int) × Hp) => [(0, .int .i64 (idn : Int)), (1, .int .i64 (nn : Int)), (7, .pointer (some ⟨bp, 0, none⟩)), (9, .map (some bm)), (10, .int .u64 x1.2.1.2.2), (11, .pointer (some ⟨x1.1.2.2.1, 0, none⟩)), (59, .slice q acts.length cap), (60, .int .i64 (acts.length : Int)), (61, .int .i64 (x1.1.1 : Int))]) (fun (x1 : (Nat × ND × Nat × Nat × NV × DK) × (List (Int × Int) × Nat × Int) × Hp) => x1.2.2) (fun (x1 : (Nat × ND × Nat × Nat × NV × DK) × (List (Int × Int) × Nat × Int) × Hp) => lnB bp b.d b.x w (ND.start idn nn LG.new) :: ndB ⟨x1.1.2.2.1, x1.1.2.2.2.1, b.d⟩ x1.1.2.2.2.2.1 x1.1.2.1 :: lgN ⟨x1.1.2.2.1, x1.1.2.2.2.1, b.d⟩ x1.1.2.2.2.2.1 x1.1.2.1 :: dkB b.d x1.1.2.2.2.2.1.u x1.1.2.2.2.2.2 :: dkS x1.1.2.2.2.2.1.u x1.1.2.2.2.2.2 :: prA x1.1.2.2.2.2.1 x1.1.2.1 :: mpA x1.1.2.2.2.2.1.vm x1.1.2.1.votes :: mapF bm .u64 (voteF x1.2.1.1) x1.2.1.2.1 :: F) (fun (x1 : (Nat × ND × Nat × Nat × NV × DK) × (List (Int × Int) × Nat × Int) × Hp) => x1.1.1 ≤ acts.length ∧ VS (17000000 + 400000 * x1.1.1) (4294967296 + 60 * (x1.1.1 : Int)) (4294967296 + 60 * (x1.1.1 : Int)) (60 * x1.1.1) idn nn x1.2.1.1 x1.2.1.2.2 x1.1.2.1 x1.1.2.2.2.2.2 ∧ x1.1.2.1.out = [] ∧ NOk x1.2.2 x1.1.2.2.2.2.1 x1.1.2.1 ∧ R3.le x1.2.2) (fun (x1 : (Nat × ND × Nat × Nat × NV × DK) × (List (Int × Int) × Nat × Int) × Hp) => acts.length - x1.1.1) ((0, ND.start idn nn LG.new, b.x, b.l, v, DK.new), ([], 0, 0), R3) (⟨Nat.zero_le _, .inl ⟨(LIn.start0 hin).mono (by omega) (by omega) (by omega), rfl, rfl, SD.new.mono (by omega), VI.nil _, Int.le_refl _⟩, rfl, hv, Hp.le_refl _⟩) ?_
  rintro ⟨⟨i, x, bx, bl, v4, D4⟩, ⟨S, km, t0⟩, R4⟩ ⟨hi, hvs, hxo, hxv, hR4⟩
  try dsimp only
  dsimp only at hi hvs hxo hxv hR4
  refine cj_seq fun K20 hK20 => cj_region ?_
  refine Pa (y_lss rfl rfl) ?_
  refine rj_nil (hK20 _ _ _ (cj_seq fun K21 hK21 => ?_))
  refine cj_cond rfl (fun hc62 => ?_) (fun hc62 => ?_)
  try simp only [dT, dF, nT, nF, tF, fT] at hc62
  refine cj_skip (hK21 _ _ _ (cj_seq fun K23 hK23 => cj_block (cj_seq fun K24 hK24 => ?_)))
  have hi2 : i < acts.length := by (try simp at hc62); omega
  obtain ⟨a, ha⟩ : ∃ x, acts[i]? = some x := ⟨_, List.getElem?_eq_getElem hi2⟩
  have hsa := hsm a (List.mem_of_getElem? ha)
  have hba := hbd a (List.mem_of_getElem? ha)
  obtain ⟨be, oe, ce, cse, hee, ⟨ve, rfl, hve⟩, _, hcell⟩ := (hf.mono (Hp.le_trans hR13 hR4)).at ha
  obtain ⟨rfl, rfl⟩ : q = some ⟨be, oe, none⟩ ∧ cap = ce := by cases hee; exact ⟨rfl, rfl⟩
  have hveo := hve.one
  have hxvm := hxv.vm
  obtain ⟨T, hT⟩ : ∃ T : Int, T = 4294967296 + 60 * (i : Int) := ⟨_, rfl⟩
  obtain ⟨A, hA⟩ : ∃ A : Nat, A = 60 * i := ⟨_, rfl⟩
  obtain ⟨nb, hnb⟩ : ∃ nb : Nat, nb = 17000000 + 400000 * i := ⟨_, rfl⟩
  rw [← hT, ← hA, ← hnb] at hvs
  have hBk : ∀ k : Nat, k ≤ 52 → BB (T + k) (T + k) (A + k) := fun k hk => by unfold BB; omega
  have hmb := hba.m
  have hml : MLn T T a.m := by (have q1 := hmb.term; have q2 := hmb.index; have q3 := hmb.commit; have q4 := hmb.logTerm; unfold u64B at q1 q2 q3 q4; have p1 := hsa.term; have p2 := hsa.mindex; have p3 := hsa.logTerm; have p4 := hsa.es; have p5 := hsa.state; exact ⟨by omega, by omega, by omega, by omega, ⟨by omega, fun e he => by have z1 := (hmb.es e he).1; have z2 := p4.2 e he; unfold u64B at z1; omega⟩, by omega⟩)
  have hmc : a.m.commit < 18446744073709551616 := by have q3 := hmb.commit; unfold u64B at q3; omega
  refine cj_region ?_
  first | refine Pa (y_indexAddr Tryz.underlying50 Tryz.sizeOf54 rfl rfl om_) ?_ | refine Pa (y_index_slc Tryz.underlying50 Tryz.sizeOf54 rfl rfl fd_ om_) ?_
  refine Pa ((y_loads_ro m54 (vs := acC a ve) rfl rfl (fun j u hj => by rw [show ((i : Nat) : Int).toNat = i by simp]; exact hcell j u hj))) ?_
  refine rj_alloc (wn0 rfl) rfl Tryz.zeroValue54 rfl (fun b13 => ?_)
  refine Sm (vs := acC a ve) m54 (acC_one hveo) ?_
  refine rj_nil (hK24 _ _ _ (cj_seq fun K25 hK25 => cj_region ?_))
  refine Ps ?_
  refine rj_nil (hK25 _ _ _ (cj_seq fun K26 hK26 => ?_))
  have hJ34 : ∀ (x3 : (ND × Nat × Nat × NV × DK) × (Value × List Msg) × Hp), VS (nb + 400000) (T + 52) (T + 52) (A + 52) idn nn (S ++ tolds idn x3.2.1.2) t0 x3.1.1 x3.1.2.2.2.2 ∧ x3.1.1.out = [] ∧ NOk x3.2.2 x3.1.2.2.2.1 x3.1.1 ∧ R4.le x3.2.2 ∧ FrX msgE x3.2.2 x3.2.1.2 x3.2.1.1 ∧ (¬ a.what = 0 → downS (x3.1.1, x3.1.2.2.2.2) = true → x3.2.1.2 = []) → EJ ⟨Tryz.prog, 192, σ⟩ K26 [(0, .int .i64 (idn : Int)), (1, .int .i64 (nn : Int)), (7, .pointer (some ⟨bp, 0, none⟩)), (9, .map (some bm)), (10, .int .u64 t0), (11, .pointer (some ⟨x3.1.2.1, 0, none⟩)), (13, .pointer (some ⟨b13, 0, none⟩)), (14, x3.2.1.1), (59, .slice (some ⟨be, oe, none⟩) acts.length cap), (60, .int .i64 (acts.length : Int)), (61, .int .i64 (i : Int))] x3.2.2 (lnB bp b.d b.x w (ND.start idn nn LG.new) :: ndB ⟨x3.1.2.1, x3.1.2.2.1, b.d⟩ x3.1.2.2.2.1 x3.1.1 :: lgN ⟨x3.1.2.1, x3.1.2.2.1, b.d⟩ x3.1.2.2.2.1 x3.1.1 :: dkB b.d x3.1.2.2.2.1.u x3.1.2.2.2.2 :: dkS x3.1.2.2.2.1.u x3.1.2.2.2.2 :: prA x3.1.2.2.2.1 x3.1.1 :: mpA x3.1.2.2.2.1.vm x3.1.1.votes :: mapF bm .u64 (voteF S) km :: blk b13 (acC a ve) 54 :: F) := by
    rintro ⟨⟨y, bx6, bl6, v6, D6⟩, ⟨s6, l⟩, R6⟩ ⟨hvs6, hyo, hyv, hR6, hfl, hdl⟩
    try dsimp only
    dsimp only at hvs6 hyo hyv hR6 hfl hdl
    have hfo := hfl.one
    obtain ⟨q6, c6, rfl, hq6, hc6⟩ := hfl.shape
    unfold maxLen at hc6
    refine hK26 _ _ _ (cj_seq fun K27 hK27 => cj_seq fun K28 hK28 => cj_region ?_)
    refine Pm ?_
    refine Pa (Ca Tryz.call26 (ndDown_q ⟨bx6, bl6, b.d⟩ v6 y D6)) ?_
    refine rj_nil (hK28 _ _ _ ?_)
    refine cj_cond rfl (fun hc135 => ?_) (fun hc135 => ?_)
    have hdn : downS (y, D6) = true := hc135
    refine cj_seq fun K30 hK30 => cj_seq fun K31 hK31 => cj_region ?_
    refine Pm ?_
    first | refine Pa (y_len_sl Tryz.underlying28 rfl) ?_ | refine Pa (y_len_slc Tryz.underlying28 rfl fd_) ?_
    refine Pa (y_gtr rfl rfl) ?_
    refine Pm ?_
    refine rj_part 139 rfl (fun hg139 => ?_) (fun hg139 => ?_)
    have hl0 : l.length > 0 := by (try simp at hg139); omega
    have hw0 : a.what = 0 := by (by_cases h : a.what = 0; exact h; exfalso; have := hdl h hdn; rw [this] at hl0; simp at hl0)
    refine Pb (Ga Tryz.underlying54 Tryz.sizeOf3) ?_
    first | refine Pb (La o3) ?_ | refine Pb (Ls o3) ?_
    refine Pb ((Yld.to (u := .bool false) (y_neq rfl rfl) (by rw [hw0]; simp))) ?_
    refine Pa (y_pick_t rfl rfl) ?_
    refine rj_nil (hK31 _ _ _ (cj_cond_f rfl (cj_skip (hK30 _ _ _ (cj_exit (hK23 _ _ _ (cj_region ?_)))))))
    first | refine Pa (y_add64 rfl rfl om_) ?_ | refine Pa (y_add rfl rfl) ?_
    refine Pm ?_
    refine rj_nil ?_
    refine ej_on (q' := roundK _ _ _ _ _ _ _) rfl ?_
    refine ej_round (((i + 1, y, bx6, bl6, v6, D6), (S, km, t0), R6)) (⟨by dsimp only; omega, hvs6.mono (by dsimp only; omega) (by dsimp only; omega) (by dsimp only; omega) (by dsimp only; omega), hyo, hyv, Hp.le_trans hR4 hR6⟩) (by dsimp only; omega) (eC rfl (eC rfl (eC rfl (eC rfl (eC rfl (eC rfl (eC rfl (eC rfl (eC rfl eN))))))))) rfl sb_
    try simp only [dT, dF, nT, nF, tF, fT] at hg139
    refine Pk ?_
    refine Pk ?_
    refine Pk ?_
    refine Pa (y_pick_f rfl rfl) ?_
    refine rj_nil (hK31 _ _ _ ?_)
    refine cj_env (eL 0 rfl (eL 1 rfl (eL 7 rfl (eL 9 rfl (eL 10 rfl (eL 11 rfl (eL 59 rfl (eL 60 rfl (eL 61 rfl (eL 143 rfl eN)))))))))) ?_
    refine cj_cond_f rfl (cj_skip (hK30 _ _ _ (cj_exit (hK23 _ _ _ (cj_region ?_)))))
    first | refine Pa (y_add64 rfl rfl om_) ?_ | refine Pa (y_add rfl rfl) ?_
    refine Pm ?_
    refine rj_nil ?_
    refine ej_on (q' := roundK _ _ _ _ _ _ _) rfl ?_
    refine ej_round (((i + 1, y, bx6, bl6, v6, D6), (S, km, t0), R6)) (⟨by dsimp only; omega, hvs6.mono (by dsimp only; omega) (by dsimp only; omega) (by dsimp only; omega) (by dsimp only; omega), hyo, hyv, Hp.le_trans hR4 hR6⟩) (by dsimp only; omega) (eC rfl (eC rfl (eC rfl (eC rfl (eC rfl (eC rfl (eC rfl (eC rfl (eC rfl eN))))))))) rfl sb_
    have hdn : ¬ downS (y, D6) = true := by simpa using hc135
    obtain ⟨u1, u2, u3, u4, u5, u6⟩ : LIn (T + 52) (T + 52) (A + 52) y ∧ y.id = idn ∧ y.n = nn ∧ SD (nb + 400000) y.g D6 ∧ VI (S ++ tolds idn l) y.g ∧ t0 ≤ y.g.term := by (rcases hvs6 with h | ⟨h, _⟩; exact h; exact absurd h hdn)
    refine cj_skip (hK27 _ _ _ (cj_seq fun K32 hK32 => cj_seq fun K33 hK33 => cj_region ?_))
    refine Pm ?_
    refine Pa (Ca Tryz.call12 (ndLog_q ⟨bx6, bl6, b.d⟩ v6 y)) ?_
    refine Pa (Ca Tryz.call13 (lgTerm_q bl6 (some ⟨b.d, 0, none⟩) v6.va y.g)) ?_
    refine Pm ?_
    refine Pa ((Yld.to (u := .bool false) (y_lss rfl rfl) (by rw [decide_eq_false (by omega)]))) ?_
    refine rj_nil (hK33 _ _ _ (cj_cond_f rfl (cj_skip (hK32 _ _ _ (cj_seq fun K34 hK34 => cj_region ?_)))))
    refine Pm ?_
    refine Pa (Ca Tryz.call12 (ndLog_q ⟨bx6, bl6, b.d⟩ v6 y)) ?_
    refine Pa (Ca Tryz.call13 (lgTerm_q bl6 (some ⟨b.d, 0, none⟩) v6.va y.g)) ?_
    refine Ps ?_
    refine rj_nil (hK34 _ _ _ (cj_seq fun K35 hK35 => cj_region ?_))
    refine rj_turn (A := mapF bm .u64 (voteF S) km) (B := mapF bm .u64 (voteF (S ++ tolds idn (l.take 0))) km) fd_ (fun h hh => by (have e : S ++ tolds idn (l.take 0) = S := by simp [tolds]); rw [e]; exact hh) ?_
    refine Pm ?_
    first | refine Pa (y_len_sl Tryz.underlying28 rfl) ?_ | refine Pa (y_len_slc Tryz.underlying28 rfl fd_) ?_
    refine Pm ?_
    refine rj_nil (hK35 _ _ _ (cj_block ?_))
    refine cj_env (E' := (fun (x4 : Nat × Nat) => [(0, .int .i64 (idn : Int)), (1, .int .i64 (nn : Int)), (7, .pointer (some ⟨bp, 0, none⟩)), (9, .map (some bm)), (10, .int .u64 y.g.term), (11, .pointer (some ⟨bx6, 0, none⟩)), (59, .slice (some ⟨be, oe, none⟩) acts.length cap), (60, .int .i64 (acts.length : Int)), (61, .int .i64 (i : Int)), (152, .slice q6 l.length c6), (153, .int .i64 (l.length : Int)), (154, .int .i64 (x4.1 : Int))]) (0, km)) (eC rfl (eC rfl (eC rfl (eC rfl (eC rfl (eC rfl (eC rfl (eC rfl (eC rfl (eC rfl (eC rfl (eC rfl eN)))))))))))) ?_
    refine cj_sub (M := (fun (x4 : Nat × Nat) => lnB bp b.d b.x w (ND.start idn nn LG.new) :: ndB ⟨bx6, bl6, b.d⟩ v6 y :: lgN ⟨bx6, bl6, b.d⟩ v6 y :: dkB b.d v6.u D6 :: dkS v6.u D6 :: prA v6 y :: mpA v6.vm y.votes :: mapF bm .u64 (voteF (S ++ tolds idn (l.take x4.1))) x4.2 :: F) (0, km)) sb_ ?_
    refine cj_loop (fun (x4 : Nat × Nat) => [(0, .int .i64 (idn : Int)), (1, .int .i64 (nn : Int)), (7, .pointer (some ⟨bp, 0, none⟩)), (9, .map (some bm)), (10, .int .u64 y.g.term), (11, .pointer (some ⟨bx6, 0, none⟩)), (59, .slice (some ⟨be, oe, none⟩) acts.length cap), (60, .int .i64 (acts.length : Int)), (61, .int .i64 (i : Int)), (152, .slice q6 l.length c6), (153, .int .i64 (l.length : Int)), (154, .int .i64 (x4.1 : Int))]) (fun (x4 : Nat × Nat) => R6) (fun (x4 : Nat × Nat) => lnB bp b.d b.x w (ND.start idn nn LG.new) :: ndB ⟨bx6, bl6, b.d⟩ v6 y :: lgN ⟨bx6, bl6, b.d⟩ v6 y :: dkB b.d v6.u D6 :: dkS v6.u D6 :: prA v6 y :: mpA v6.vm y.votes :: mapF bm .u64 (voteF (S ++ tolds idn (l.take x4.1))) x4.2 :: F) (fun (x4 : Nat × Nat) => x4.1 ≤ l.length) (fun (x4 : Nat × Nat) => l.length - x4.1) (0, km) (Nat.zero_le _) ?_
    rintro ⟨k, km9⟩ hk
    try dsimp only
    dsimp only at hk
    refine cj_seq fun K36 hK36 => cj_region ?_
    refine Pa (y_lss rfl rfl) ?_
    refine rj_nil (hK36 _ _ _ (cj_seq fun K37 hK37 => ?_))
    refine cj_cond rfl (fun hc155 => ?_) (fun hc155 => ?_)
    try simp only [dT, dF, nT, nF, tF, fT] at hc155
    refine cj_skip (hK37 _ _ _ (cj_seq fun K39 hK39 => cj_block (cj_seq fun K40 hK40 => ?_)))
    have hk2 : k < l.length := by (try simp at hc155); omega
    obtain ⟨mm, hmm⟩ : ∃ x, l[k]? = some x := ⟨_, List.getElem?_eq_getElem hk2⟩
    obtain ⟨b8, o8, c8, cs8, he8, ⟨ve8, rfl, hve8⟩, _, hcell8⟩ := hfl.at hmm
    obtain ⟨rfl, rfl⟩ : q6 = some ⟨b8, o8, none⟩ ∧ c6 = c8 := by cases he8; exact ⟨rfl, rfl⟩
    have hve8o := hve8.one
    have htk := tolds_take (id := idn) hmm
    refine cj_region ?_
    first | refine Pa (y_indexAddr Tryz.underlying28 Tryz.sizeOf48 rfl rfl om_) ?_ | refine Pa (y_index_slc Tryz.underlying28 Tryz.sizeOf48 rfl rfl fd_ om_) ?_
    refine Pa ((y_loads_ro m48 (vs := msgC mm ve8) rfl rfl (fun j u hj => by rw [show ((k : Nat) : Int).toNat = k by simp]; exact hcell8 j u hj))) ?_
    refine rj_alloc (wn0 rfl) rfl Tryz.zeroValue48 rfl (fun b20 => ?_)
    refine Sm (vs := msgC mm ve8) m48 (msgC_one hve8o) ?_
    refine rj_nil (hK40 _ _ _ (cj_seq fun K41 hK41 => cj_region ?_))
    refine Ps ?_
    refine rj_nil (hK41 _ _ _ (cj_seq fun K42 hK42 => ?_))
    have hJ48 : ∀ (who : Int), told idn mm = [(mm.term, who)] → EJ ⟨Tryz.prog, 192, σ⟩ K42 [(0, .int .i64 (idn : Int)), (1, .int .i64 (nn : Int)), (7, .pointer (some ⟨bp, 0, none⟩)), (9, .map (some bm)), (10, .int .u64 y.g.term), (11, .pointer (some ⟨bx6, 0, none⟩)), (20, .pointer (some ⟨b20, 0, none⟩)), (21, .int .i64 who), (59, .slice (some ⟨be, oe, none⟩) acts.length cap), (60, .int .i64 (acts.length : Int)), (61, .int .i64 (i : Int)), (152, .slice (some ⟨b8, o8, none⟩) l.length c6), (153, .int .i64 (l.length : Int)), (154, .int .i64 (k : Int))] R6 (lnB bp b.d b.x w (ND.start idn nn LG.new) :: ndB ⟨bx6, bl6, b.d⟩ v6 y :: lgN ⟨bx6, bl6, b.d⟩ v6 y :: dkB b.d v6.u D6 :: dkS v6.u D6 :: prA v6 y :: mpA v6.vm y.votes :: mapF bm .u64 (voteF (S ++ tolds idn (l.take k))) km9 :: blk b20 (msgC mm ve8) 48 :: F) := by
      rintro who hwho
      try dsimp only
      refine hK42 _ _ _ (cj_seq fun K43 hK43 => cj_seq fun K44 hK44 => cj_region ?_)
      have hone := vote_one u5 hmm hwho
      obtain ⟨old, there, hlk, hlk2⟩ := voteF_look (S ++ tolds idn (l.take k)) mm.term
      refine Pm ?_
      refine Pa (Ga Tryz.underlying48 Tryz.sizeOf31) ?_
      first | refine Pa (La o31) ?_ | refine Pa (Ls o31) ?_
      refine Pa ((Yld.to (u := tupOf [.int .i64 old, .bool there]) (y_lookup Tryz.underlying64 Tryz.underlying31 Tryz.zeroValue3 rfl rfl fd_) (by rw [← hlk]; rfl))) ?_
      refine Pm ?_
      refine Pa (y_extract rfl rfl) ?_
      refine Pa (y_extract rfl rfl) ?_
      refine Ps ?_
      refine Ps ?_
      refine rj_nil (hK44 _ _ _ ?_)
      refine cj_env (eL 0 rfl (eL 1 rfl (eL 7 rfl (eL 9 rfl (eL 10 rfl (eL 11 rfl (eL 20 rfl (eL 21 rfl (eL 22 rfl (eL 23 rfl (eL 59 rfl (eL 60 rfl (eL 61 rfl (eL 152 rfl (eL 153 rfl (eL 154 rfl eN)))))))))))))))) ?_
      refine cj_seq fun K45 hK45 => cj_region ?_
      refine Pm ?_
      refine Pm ?_
      refine rj_part 181 rfl (fun hg181 => ?_) (fun hg181 => ?_)
      obtain ⟨p9, hp9, e9, e10⟩ := hlk2 hg181
      have heo := hone p9 hp9 e9
      refine Pb (y_move rfl) ?_
      refine Pb (y_move rfl) ?_
      refine Pb ((Yld.to (u := .bool false) (y_neq rfl rfl) (by rw [← e10, heo]; simp))) ?_
      refine Pa (y_pick_t rfl rfl) ?_
      refine rj_nil (hK45 _ _ _ (cj_cond_f rfl (cj_skip (hK43 _ _ _ (cj_region ?_)))))
      refine Pm ?_
      refine Pa (Ga Tryz.underlying48 Tryz.sizeOf31) ?_
      first | refine Pa (La o31) ?_ | refine Pa (Ls o31) ?_
      refine Pm ?_
      refine rj_mapUpdate Tryz.underlying64 Tryz.underlying31 (wn0 rfl) rfl rfl rfl fd_ ?_
      rw [voteF_set hone, List.append_assoc, ← hwho, ← htk]
      refine rj_nil (hK39 _ _ _ (cj_region ?_))
      first | refine Pa (y_add64 rfl rfl om_) ?_ | refine Pa (y_add rfl rfl) ?_
      refine Pm ?_
      refine rj_nil ?_
      refine ej_on (q' := roundK _ _ _ _ _ _ _) rfl ?_
      refine ej_round ((k + 1, _)) (by dsimp only; omega) (by dsimp only; omega) (eC rfl (eC rfl (eC rfl (eC rfl (eC rfl (eC rfl (eC rfl (eC rfl (eC rfl (eC rfl (eC rfl (eC rfl eN)))))))))))) rfl sb_
      try simp only [dT, dF, nT, nF, tF, fT] at hg181
      refine Pk ?_
      refine Pk ?_
      refine Pk ?_
      refine Pa (y_pick_f rfl rfl) ?_
      refine rj_nil (hK45 _ _ _ (cj_cond_f rfl (cj_skip (hK43 _ _ _ (cj_region ?_)))))
      refine Pm ?_
      refine Pa (Ga Tryz.underlying48 Tryz.sizeOf31) ?_
      first | refine Pa (La o31) ?_ | refine Pa (Ls o31) ?_
      refine Pm ?_
      refine rj_mapUpdate Tryz.underlying64 Tryz.underlying31 (wn0 rfl) rfl rfl rfl fd_ ?_
      rw [voteF_set hone, List.append_assoc, ← hwho, ← htk]
      refine rj_nil (hK39 _ _ _ ?_)
      refine cj_env (eL 0 rfl (eL 1 rfl (eL 7 rfl (eL 9 rfl (eL 10 rfl (eL 11 rfl (eL 59 rfl (eL 60 rfl (eL 61 rfl (eL 152 rfl (eL 153 rfl (eL 154 rfl eN)))))))))))) ?_
      refine cj_region ?_
      first | refine Pa (y_add64 rfl rfl om_) ?_ | refine Pa (y_add rfl rfl) ?_
      refine Pm ?_
      refine rj_nil ?_
      refine ej_on (q' := roundK _ _ _ _ _ _ _) rfl ?_
      refine ej_round ((k + 1, _)) (by dsimp only; omega) (by dsimp only; omega) (eC rfl (eC rfl (eC rfl (eC rfl (eC rfl (eC rfl (eC rfl (eC rfl (eC rfl (eC rfl (eC rfl (eC rfl eN)))))))))))) rfl sb_
    refine cj_block (cj_seq fun K46 hK46 => cj_region ?_)
    refine Pa (Ga Tryz.underlying48 Tryz.sizeOf3) ?_
    first | refine Pa (La o3) ?_ | refine Pa (Ls o3) ?_
    refine Pa (y_eql rfl rfl) ?_
    refine Pm ?_
    refine rj_part 162 rfl (fun hg162 => ?_) (fun hg162 => ?_)
    have g1 : mm.kind = 1 := by simpa using hg162
    refine Pb (Ga Tryz.underlying48 Tryz.sizeOf4) ?_
    first | refine Pb (La o4) ?_ | refine Pb (Ls o4) ?_
    refine Pa (y_pick_t rfl rfl) ?_
    refine Ps ?_
    refine rj_nil (hK46 _ _ _ ?_)
    refine cj_cond rfl (fun hc158 => ?_) (fun hc158 => ?_)
    have g2 : mm.ok = true := by simpa using hc158
    refine cj_region ?_
    refine Pa (Ga Tryz.underlying48 Tryz.sizeOf3) ?_
    first | refine Pa (La o3) ?_ | refine Pa (Ls o3) ?_
    refine Ps ?_
    refine rj_nil ?_
    refine ej_join hJ48 (mm.to) (told_vote g1 g2) (eC rfl (eC rfl (eC rfl (eC rfl (eC rfl (eC rfl (eC rfl (eC rfl (eC rfl (eC rfl (eC rfl (eC rfl (eC rfl (eC rfl eN)))))))))))))) rfl sb_
    have g2 : ¬ mm.ok = true := by simpa using hc158
    have g0 : ¬ (mm.kind = 1 ∧ mm.ok = true) := fun h => g2 h.2
    refine cj_seq fun K48 hK48 => cj_region ?_
    refine Pa (Ga Tryz.underlying48 Tryz.sizeOf3) ?_
    first | refine Pa (La o3) ?_ | refine Pa (Ls o3) ?_
    refine Pa (y_eql rfl rfl) ?_
    refine Ps ?_
    refine rj_nil (hK48 _ _ _ ?_)
    refine cj_cond rfl (fun hc168 => ?_) (fun hc168 => ?_)
    have g3 : mm.kind = 0 := by simpa using hc168
    refine cj_region ?_
    refine Pm ?_
    refine Ps ?_
    refine rj_nil ?_
    refine ej_join hJ48 ((idn : Int)) (told_ask g3) (eC rfl (eC rfl (eC rfl (eC rfl (eC rfl (eC rfl (eC rfl (eC rfl (eC rfl (eC rfl (eC rfl (eC rfl (eC rfl (eC rfl eN)))))))))))))) rfl sb_
    have g3 : ¬ mm.kind = 0 := by simpa using hc168
    rw [show tolds idn (l.take k) = tolds idn (l.take (k + 1)) by rw [htk, told_none g0 g3, List.append_nil]]
    refine cj_exit (hK39 _ _ _ (cj_region ?_))
    first | refine Pa (y_add64 rfl rfl om_) ?_ | refine Pa (y_add rfl rfl) ?_
    refine Pm ?_
    refine rj_nil ?_
    refine ej_on (q' := roundK _ _ _ _ _ _ _) rfl ?_
    refine ej_round ((k + 1, _)) (by dsimp only; omega) (by dsimp only; omega) (eC rfl (eC rfl (eC rfl (eC rfl (eC rfl (eC rfl (eC rfl (eC rfl (eC rfl (eC rfl (eC rfl (eC rfl eN)))))))))))) rfl sb_
    have g1 : ¬ mm.kind = 1 := by simpa using hg162
    have g0 : ¬ (mm.kind = 1 ∧ mm.ok = true) := fun h => g1 h.1
    refine Pk ?_
    refine Pk ?_
    refine Pa (y_pick_f rfl rfl) ?_
    refine Ps ?_
    refine rj_nil (hK46 _ _ _ ?_)
    refine cj_env (eL 0 rfl (eL 1 rfl (eL 7 rfl (eL 9 rfl (eL 10 rfl (eL 11 rfl (eL 20 rfl (eL 59 rfl (eL 60 rfl (eL 61 rfl (eL 152 rfl (eL 153 rfl (eL 154 rfl (eL 158 rfl eN)))))))))))))) ?_
    refine cj_cond_f rfl (cj_seq fun K50 hK50 => cj_region ?_)
    refine Pa (Ga Tryz.underlying48 Tryz.sizeOf3) ?_
    first | refine Pa (La o3) ?_ | refine Pa (Ls o3) ?_
    refine Pa (y_eql rfl rfl) ?_
    refine Ps ?_
    refine rj_nil (hK50 _ _ _ ?_)
    refine cj_cond rfl (fun hc168 => ?_) (fun hc168 => ?_)
    have g3 : mm.kind = 0 := by simpa using hc168
    refine cj_region ?_
    refine Pm ?_
    refine Ps ?_
    refine rj_nil ?_
    refine ej_join hJ48 ((idn : Int)) (told_ask g3) (eC rfl (eC rfl (eC rfl (eC rfl (eC rfl (eC rfl (eC rfl (eC rfl (eC rfl (eC rfl (eC rfl (eC rfl (eC rfl (eC rfl eN)))))))))))))) rfl sb_
    have g3 : ¬ mm.kind = 0 := by simpa using hc168
    rw [show tolds idn (l.take k) = tolds idn (l.take (k + 1)) by rw [htk, told_none g0 g3, List.append_nil]]
    refine cj_exit (hK39 _ _ _ (cj_region ?_))
    first | refine Pa (y_add64 rfl rfl om_) ?_ | refine Pa (y_add rfl rfl) ?_
    refine Pm ?_
    refine rj_nil ?_
    refine ej_on (q' := roundK _ _ _ _ _ _ _) rfl ?_
    refine ej_round ((k + 1, _)) (by dsimp only; omega) (by dsimp only; omega) (eC rfl (eC rfl (eC rfl (eC rfl (eC rfl (eC rfl (eC rfl (eC rfl (eC rfl (eC rfl (eC rfl (eC rfl eN)))))))))))) rfl sb_
    obtain rfl : k = l.length := by (try simp at hc155); omega
    rw [List.take_length]
    refine cj_exit (hK23 _ _ _ (cj_region ?_))
    first | refine Pa (y_add64 rfl rfl om_) ?_ | refine Pa (y_add rfl rfl) ?_
    refine Pm ?_
    refine rj_nil ?_
    refine ej_on (q' := roundK _ _ _ _ _ _ _) rfl ?_
    refine ej_round (((i + 1, y, bx6, bl6, v6, D6), (S ++ tolds idn l, km9, y.g.term), R6)) (⟨by dsimp only; omega, .inl ⟨u1.mono (by dsimp only; omega) (by dsimp only; omega) (by dsimp only; omega), u2, u3, u4.mono (by dsimp only; omega), u5, Int.le_refl _⟩, hyo, hyv, Hp.le_trans hR4 hR6⟩) (by dsimp only; omega) (eC rfl (eC rfl (eC rfl (eC rfl (eC rfl (eC rfl (eC rfl (eC rfl (eC rfl eN))))))))) rfl sb_
  refine cj_seq fun K52 hK52 => cj_region ?_
  refine Pa (Ga Tryz.underlying54 Tryz.sizeOf3) ?_
  first | refine Pa (La o3) ?_ | refine Pa (Ls o3) ?_
  refine rj_nil (hK52 _ _ _ (cj_block (cj_seq fun K53 hK53 => cj_region ?_)))
  refine Pa (y_eql rfl rfl) ?_
  refine Ps ?_
  refine rj_nil (hK53 _ _ _ ?_)
  refine cj_cond rfl (fun hc67 => ?_) (fun hc67 => ?_)
  have k0 : a.what = 0 := by simpa using hc67
  have han := hsa.n k0
  obtain ⟨N, hN⟩ : ∃ N : Nat, a.n = (N : Int) := ⟨a.n.toNat, by omega⟩
  refine cj_add (A := slc 48 10 (.slice none 0 0) 0 ([] : List (List Value)).flatten) (slc_nil _ _) ?_
  refine cj_seq fun K55 hK55 => cj_region ?_
  refine Pa (Ga Tryz.underlying54 Tryz.sizeOf3) ?_
  first | refine Pa (La o3) ?_ | refine Pa (Ls o3) ?_
  refine Pm ?_
  refine rj_nil (hK55 _ _ _ (cj_block ?_))
  refine cj_env (E' := (fun (x2 : (Nat × ND × NV × DK) × (Value × List Msg × List (List Value)) × Hp) => [(0, .int .i64 (idn : Int)), (1, .int .i64 (nn : Int)), (7, .pointer (some ⟨bp, 0, none⟩)), (9, .map (some bm)), (10, .int .u64 t0), (11, .pointer (some ⟨bx, 0, none⟩)), (13, .pointer (some ⟨b13, 0, none⟩)), (14, x2.2.1.1), (59, .slice (some ⟨be, oe, none⟩) acts.length cap), (60, .int .i64 (acts.length : Int)), (61, .int .i64 (i : Int)), (70, .int .i64 a.n), (71, .int .i64 (x2.1.1 : Int))]) ((0, x, v4, D4), (.slice none 0 0, [], []), R4)) (eC rfl (eC rfl (eC rfl (eC rfl (eC rfl (eC rfl (eC rfl (eC rfl (eC rfl (eC rfl (eC rfl (eC rfl (eC rfl eN))))))))))))) ?_
  refine cj_sub (M := (fun (x2 : (Nat × ND × NV × DK) × (Value × List Msg × List (List Value)) × Hp) => slc 48 10 x2.2.1.1 x2.2.1.2.1.length x2.2.1.2.2.flatten :: lnB bp b.d b.x w (ND.start idn nn LG.new) :: ndB ⟨bx, bl, b.d⟩ x2.1.2.2.1 x2.1.2.1 :: lgN ⟨bx, bl, b.d⟩ x2.1.2.2.1 x2.1.2.1 :: dkB b.d x2.1.2.2.1.u x2.1.2.2.2 :: dkS x2.1.2.2.1.u x2.1.2.2.2 :: prA x2.1.2.2.1 x2.1.2.1 :: mpA x2.1.2.2.1.vm x2.1.2.1.votes :: mapF bm .u64 (voteF S) km :: blk b13 (acC a ve) 54 :: F) ((0, x, v4, D4), (.slice none 0 0, [], []), R4)) sb_ ?_
  refine cj_loop (fun (x2 : (Nat × ND × NV × DK) × (Value × List Msg × List (List Value)) × Hp) => [(0, .int .i64 (idn : Int)), (1, .int .i64 (nn : Int)), (7, .pointer (some ⟨bp, 0, none⟩)), (9, .map (some bm)), (10, .int .u64 t0), (11, .pointer (some ⟨bx, 0, none⟩)), (13, .pointer (some ⟨b13, 0, none⟩)), (14, x2.2.1.1), (59, .slice (some ⟨be, oe, none⟩) acts.length cap), (60, .int .i64 (acts.length : Int)), (61, .int .i64 (i : Int)), (70, .int .i64 a.n), (71, .int .i64 (x2.1.1 : Int))]) (fun (x2 : (Nat × ND × NV × DK) × (Value × List Msg × List (List Value)) × Hp) => x2.2.2) (fun (x2 : (Nat × ND × NV × DK) × (Value × List Msg × List (List Value)) × Hp) => slc 48 10 x2.2.1.1 x2.2.1.2.1.length x2.2.1.2.2.flatten :: lnB bp b.d b.x w (ND.start idn nn LG.new) :: ndB ⟨bx, bl, b.d⟩ x2.1.2.2.1 x2.1.2.1 :: lgN ⟨bx, bl, b.d⟩ x2.1.2.2.1 x2.1.2.1 :: dkB b.d x2.1.2.2.1.u x2.1.2.2.2 :: dkS x2.1.2.2.1.u x2.1.2.2.2 :: prA x2.1.2.2.1 x2.1.2.1 :: mpA x2.1.2.2.1.vm x2.1.2.1.votes :: mapF bm .u64 (voteF S) km :: blk b13 (acC a ve) 54 :: F) (fun (x2 : (Nat × ND × NV × DK) × (Value × List Msg × List (List Value)) × Hp) => x2.1.1 ≤ N ∧ VS (nb + 6000 * x2.1.1) (T + x2.1.1) (T + x2.1.1) (A + x2.1.1) idn nn (S ++ tolds idn x2.2.1.2.1) t0 x2.1.2.1 x2.1.2.2.2 ∧ x2.1.2.1.out = [] ∧ NOk x2.2.2 x2.1.2.2.1 x2.1.2.1 ∧ R4.le x2.2.2 ∧ Els msgE x2.2.2 x2.2.1.2.1 x2.2.1.2.2 ∧ x2.2.1.1.oneCell' = true ∧ x2.2.1.2.1.length ≤ 20 * x2.1.1) (fun (x2 : (Nat × ND × NV × DK) × (Value × List Msg × List (List Value)) × Hp) => N - x2.1.1) ((0, x, v4, D4), (.slice none 0 0, [], []), R4) (⟨Nat.zero_le _, by simpa [tolds] using hvs, hxo, hxv, Hp.le_refl _, Els.nil, rfl, Nat.zero_le _⟩) ?_
  rintro ⟨⟨j, y, v6, D6⟩, ⟨s6, l, cs6⟩, R6⟩ ⟨hj, hy, hyo, hyv, hR6, hE6, ho6, hll⟩
  try dsimp only
  dsimp only at hj hy hyo hyv hR6 hE6 ho6 hll
  refine cj_seq fun K56 hK56 => cj_region ?_
  refine Pa (y_lss rfl rfl) ?_
  refine rj_nil (hK56 _ _ _ (cj_seq fun K57 hK57 => ?_))
  refine cj_cond rfl (fun hc72 => ?_) (fun hc72 => ?_)
  have hjN : j < N := by (try simp at hc72); omega
  have hyB1 := hBk (j + 1) (by omega)
  rw [show T + ((j + 1 : Nat) : Int) = T + j + 1 by omega, show A + (j + 1) = A + j + 1 by omega] at hyB1
  refine cj_skip (hK57 _ _ _ (cj_seq fun K59 hK59 => cj_block (cj_region ?_)))
  refine Pm ?_
  refine Pm ?_
  refine Ra Tryz.call9 (tickV_t ⟨bx, bl, b.d⟩ v6 y D6 (nb + 6000 * j) hy hyo hyB1 hyv (by omega)) ?_
  rintro r5 R5 L' hR5 ⟨l5, z5, v5, D5, hvl5, hv5, hz5o, hl5, hdn5, hv5s, rfl⟩
  have hvlo := hvl5.one
  obtain ⟨css5, he5, hf5⟩ := hvl5
  try simp only [cA, nA]
  refine rj_append (sz := 10) (by_ := 104) ⟨Tryz.underlying28, _, _, rfl, rfl, rfl, rfl, rfl⟩ (wn0 rfl) rfl rfl rfl fd_ ((FrX.src (T := msgE) Tryz.underlying28 (l := l5) (css := css5) he5 hf5)) rfl om_ (by simp only [maxLen]; omega) (fun v76 ho76 hh76 => ?_)
  rw [← List.flatten_append, ← List.length_append]
  refine Ps ?_
  refine rj_nil (hK59 _ _ _ ?_)
  refine cj_env (eL 0 rfl (eL 1 rfl (eL 7 rfl (eL 9 rfl (eL 10 rfl (eL 11 rfl (eL 13 rfl (eL 14 rfl (eL 59 rfl (eL 60 rfl (eL 61 rfl (eL 70 rfl (eL 71 rfl eN))))))))))))) ?_
  refine cj_region ?_
  first | refine Pa (y_add64 rfl rfl om_) ?_ | refine Pa (y_add rfl rfl) ?_
  refine Pm ?_
  refine rj_nil ?_
  refine ej_on (q' := roundK _ _ _ _ _ _ _) rfl ?_
  refine ej_round (((j + 1, z5, v5, D5), (v76, l ++ l5, cs6 ++ css5), R5)) (⟨by dsimp only; omega, by dsimp only; rw [tolds_app, ← List.append_assoc]; simpa [Int.add_assoc, Nat.add_assoc, Nat.mul_add] using hv5s, hz5o, hv5, Hp.le_trans hR6 hR5, (hE6.mono hR5).app he5, by assumption, by dsimp only; rw [List.length_append]; omega⟩) (by dsimp only; omega) (eC rfl (eC rfl (eC rfl (eC rfl (eC rfl (eC rfl (eC rfl (eC rfl (eC rfl (eC rfl (eC rfl (eC rfl (eC rfl eN))))))))))))) rfl sb_
  obtain rfl : j = N := by (try simp at hc72); omega
  refine cj_freeze (e := 48) (sz := 10) (n := l.length) (v := s6) (xs := cs6.flatten) fd_ (fun R7 hR7 hfr7 hxl7 => ?_)
  have hfx7 : FrX msgE R7 l s6 := FrozenS.frx hfr7 (hE6.mono hR7)
  have hvs7 : VS (nb + 400000) (T + 52) (T + 52) (A + 52) idn nn (S ++ tolds idn l) t0 y D6 := hy.mono0 (by omega) (by omega) (by omega) (by omega)
  refine cj_exit ?_
  refine ej_join hJ34 (((y, bx, bl, v6, D6), (s6, l), R7)) (⟨hvs7, hyo, hyv.mono hR7, Hp.le_trans hR6 hR7, hfx7, fun h => absurd k0 h⟩) (eC rfl (eC rfl (eC rfl (eC rfl (eC rfl (eC rfl (eC rfl (eC rfl (eC rfl (eC rfl (eC rfl eN))))))))))) rfl sb_
  have k0 : ¬ a.what = 0 := by simpa using hc67
  refine cj_seq fun K60 hK60 => cj_region ?_
  refine Pa (y_eql rfl rfl) ?_
  refine Ps ?_
  refine rj_nil (hK60 _ _ _ ?_)
  refine cj_cond rfl (fun hc78 => ?_) (fun hc78 => ?_)
  have k1 : a.what = 1 := by simpa using hc78
  refine cj_region ?_
  refine Pm ?_
  refine Pa (Ga Tryz.underlying54 Tryz.sizeOf48) ?_
  refine Pa ((Lb (vs := msgC a.m ve) m48)) ?_
  refine Ra Tryz.call11 (receiveV_t ⟨bx, bl, b.d⟩ v4 x D4 a.m ve nb hvs hxo (LIn.bb (hBk 20 (by omega)) (by omega) (by omega) (Nat.le_refl _)) hml hmc hve hxv (by omega)) ?_
  rintro r5 R5 L' hR5 ⟨l5, z5, v5, D5, hvl5, hv5, hz5o, hl5, hdn5, hv5s, rfl⟩
  have hvlo := hvl5.one
  have hvs5 : VS (nb + 400000) (T + 52) (T + 52) (A + 52) idn nn (S ++ tolds idn l5) t0 z5 D5 := hv5s.mono0 (by omega) (by omega) (by omega) (by omega)
  try simp only [cA, nA]
  refine Ps ?_
  refine rj_nil ?_
  refine ej_join hJ34 (((z5, bx, bl, v5, D5), (r5, l5), R5)) (⟨hvs5, hz5o, hv5, hR5, hvl5, fun _ h => hdn5 h⟩) (eC rfl (eC rfl (eC rfl (eC rfl (eC rfl (eC rfl (eC rfl (eC rfl (eC rfl (eC rfl (eC rfl eN))))))))))) rfl sb_
  have k1 : ¬ a.what = 1 := by simpa using hc78
  refine cj_seq fun K62 hK62 => cj_region ?_
  refine Pa (y_eql rfl rfl) ?_
  refine Ps ?_
  refine rj_nil (hK62 _ _ _ ?_)
  refine cj_cond rfl (fun hc84 => ?_) (fun hc84 => ?_)
  have k2 : a.what = 2 := by simpa using hc84
  refine cj_region ?_
  refine Pm ?_
  refine Pa (Ga Tryz.underlying54 Tryz.sizeOf9) ?_
  first | refine Pa (La o9) ?_ | refine Pa (Ls o9) ?_
  refine Ra Tryz.call21 (proposeV_t ⟨bx, bl, b.d⟩ v4 x D4 a.text nb hvs hxo (LIn.bb (hBk 20 (by omega)) (by omega) (by omega) (by omega)) hsa.text hxv (by omega)) ?_
  rintro r5 R5 L' hR5 ⟨ip, tp, vl5, rfl, l5, z5, v5, D5, hvl5, hv5, hz5o, hl5, hdn5, hv5s, rfl⟩
  have hvlo := hvl5.one
  have hvs5 : VS (nb + 400000) (T + 52) (T + 52) (A + 52) idn nn (S ++ tolds idn l5) t0 z5 D5 := hv5s.mono0 (by omega) (by omega) (by omega) (by omega)
  try simp only [cA, nA]
  refine Pm ?_
  refine Pa (y_extract rfl rfl) ?_
  refine Pa (y_extract rfl rfl) ?_
  refine Pa (y_extract rfl rfl) ?_
  refine Ps ?_
  refine rj_nil ?_
  refine ej_join hJ34 (((z5, bx, bl, v5, D5), (vl5, l5), R5)) (⟨hvs5, hz5o, hv5, hR5, hvl5, fun _ h => hdn5 h⟩) (eC rfl (eC rfl (eC rfl (eC rfl (eC rfl (eC rfl (eC rfl (eC rfl (eC rfl (eC rfl (eC rfl eN))))))))))) rfl sb_
  have k2 : ¬ a.what = 2 := by simpa using hc84
  refine cj_seq fun K64 hK64 => cj_region ?_
  refine Pa (y_eql rfl rfl) ?_
  refine Ps ?_
  refine rj_nil (hK64 _ _ _ ?_)
  refine cj_env (eL 0 rfl (eL 1 rfl (eL 7 rfl (eL 9 rfl (eL 10 rfl (eL 11 rfl (eL 13 rfl (eL 14 rfl (eL 59 rfl (eL 60 rfl (eL 61 rfl (eL 66 rfl (eL 94 rfl eN))))))))))))) ?_
  refine cj_cond rfl (fun hc94 => ?_) (fun hc94 => ?_)
  have k4 : a.what = 4 := by simpa using hc94
  refine cj_mixg (L := [blk b13 (acC a ve) 54, lnB bp b.d b.x w (ND.start idn nn LG.new)]) [0, 1, 2, 3, 4, 5] [] [6] _ sb_ (by kernel_rfl) (by kernel_rfl) (by kernel_rfl) rfl ?_
  refine Wa rfl (fun R1 hR1 G => (y_move rfl)) ?_
  refine Wa rfl (fun R1 hR1 G => (y_nilCheck rfl)) ?_
  refine Wa rfl (fun R1 hR1 G => (Ga Tryz.underlying39 Tryz.sizeOf29)) ?_
  first | refine Wa rfl (fun R1 hR1 G => (La o29)) ?_ | refine Wa rfl (fun R1 hR1 G => (Ls o29)) ?_
  refine Wa rfl (fun R1 hR1 G => (Ga Tryz.underlying54 Tryz.sizeOf3)) ?_
  first | refine Wa rfl (fun R1 hR1 G => (La o3)) ?_ | refine Wa rfl (fun R1 hR1 G => (Ls o3)) ?_
  refine fj_nil ?_
  refine xj_nil ?_
  try simp only [cA, nA, List.append_nil]
  refine Ra Tryz.call22 (fuel_t b.d v4.u D4 a.n) ?_
  rintro r5 R5 L' hR5 ⟨rfl, rfl⟩
  have hvs5 : VS (nb + 400000) (T + 52) (T + 52) (A + 52) idn nn (S ++ tolds idn []) t0 x (D4.setFuel a.n) := by (have e : S ++ tolds idn [] = S := by simp [tolds]); rw [e]; exact (hvs.fuel hba.n).mono0 (by omega) (by omega) (by omega) (by omega)
  try simp only [cA, nA]
  refine rj_nil ?_
  refine ej_join hJ34 (((x, bx, bl, v4, D4.setFuel a.n), (.slice none 0 0, []), R4)) (⟨hvs5, hxo, hxv, Hp.le_refl _, FrX.nil, fun _ _ => rfl⟩) (eC rfl (eC rfl (eC rfl (eC rfl (eC rfl (eC rfl (eC rfl (eC rfl (eC rfl (eC rfl (eC rfl eN))))))))))) rfl sb_
  have k4 : ¬ a.what = 4 := by simpa using hc94
  have hvs5 : VS (nb + 400000) (T + 52) (T + 52) (A + 52) idn nn (S ++ tolds idn []) t0 x D4 := by (have e : S ++ tolds idn [] = S := by simp [tolds]); rw [e]; exact hvs.mono0 (by omega) (by omega) (by omega) (by omega)
  refine cj_seq fun K66 hK66 => cj_region ?_
  refine Pa (y_eql rfl rfl) ?_
  refine Ps ?_
  refine rj_nil (hK66 _ _ _ ?_)
  refine cj_cond rfl (fun hc103 => ?_) (fun hc103 => ?_)
  have k5 : a.what = 5 := by simpa using hc103
  obtain ⟨rs, tl, g7, c1, c2, c3, c4, c5, c6, c7⟩ := hvs.crash a.n
  have hvs5 : VS (nb + 400000) (T + 52) (T + 52) (A + 52) idn nn (S ++ tolds idn []) t0 (ND.start idn nn g7) ((D4.crash a.n).open rs tl).2 := by (have e : S ++ tolds idn [] = S := by simp [tolds]); rw [e]; exact (c5.start c7).mono0 (by omega) (by omega) (by omega) (by omega)
  have hcd : ¬ (g7.down || ((D4.crash a.n).open rs tl).2.down) = true := by simp [c7.1, c7.2.2.2.1]
  refine cj_seq fun K68 hK68 => ?_
  refine cj_mixg (L := [blk b13 (acC a ve) 54, lnB bp b.d b.x w (ND.start idn nn LG.new)]) [0, 1, 2, 3, 4, 5] [] [6] _ sb_ (by kernel_rfl) (by kernel_rfl) (by kernel_rfl) rfl ?_
  refine Wa rfl (fun R1 hR1 G => (y_move rfl)) ?_
  refine Wa rfl (fun R1 hR1 G => (y_nilCheck rfl)) ?_
  refine Wa rfl (fun R1 hR1 G => (Ga Tryz.underlying39 Tryz.sizeOf29)) ?_
  first | refine Wa rfl (fun R1 hR1 G => (La o29)) ?_ | refine Wa rfl (fun R1 hR1 G => (Ls o29)) ?_
  refine Wa rfl (fun R1 hR1 G => (Ga Tryz.underlying54 Tryz.sizeOf3)) ?_
  first | refine Wa rfl (fun R1 hR1 G => (La o3)) ?_ | refine Wa rfl (fun R1 hR1 G => (Ls o3)) ?_
  refine fj_nil ?_
  refine xj_nil ?_
  try simp only [cA, nA, List.append_nil]
  refine Ra Tryz.call23 (crash_t b.d v4.u D4 nb hvs.ok (by omega) a.n) ?_
  rintro r6 R6 L' hR6 ⟨rfl, u6, rfl⟩
  try simp only [cA, nA]
  refine rj_nil (hK68 _ _ _ (cj_seq fun K69 hK69 => cj_region ?_))
  refine Pm ?_
  refine Pa (y_nilCheck rfl) ?_
  refine Pa (Ga Tryz.underlying39 Tryz.sizeOf29) ?_
  first | refine Pa (La o29) ?_ | refine Pa (Ls o29) ?_
  refine Ra Tryz.call24 (open_t b.d u6 (D4.crash a.n) nb rs tl g7 c1 (by omega) c2 c3 c4) ?_
  rintro r7 R7 L' hR7 ⟨p7, u7, rfl, hop⟩
  obtain ⟨b7, va7, rfl, _, hva7, rfl⟩ : ∃ b7 va7, p7 = .pointer (some ⟨b7, 0, none⟩) ∧ ((D4.crash a.n).open rs tl).1 = 0 ∧ FrX entE R7 g7.all va7 ∧ L' = [lgB b7 (some ⟨b.d, 0, none⟩) va7 g7, dkB b.d u7 ((D4.crash a.n).open rs tl).2, dkS u7 ((D4.crash a.n).open rs tl).2] := by (rcases hop with ⟨_, h, _⟩ | h; exact absurd c6 h; exact h)
  rw [c6]
  try simp only [cA, nA]
  refine Pm ?_
  refine Pa (y_extract rfl rfl) ?_
  refine Pa (y_extract rfl rfl) ?_
  refine Ps ?_
  refine Ps ?_
  refine rj_nil (hK69 _ _ _ ?_)
  refine cj_env (eL 0 rfl (eL 1 rfl (eL 7 rfl (eL 9 rfl (eL 10 rfl (eL 13 rfl (eL 14 rfl (eL 15 rfl (eL 16 rfl (eL 59 rfl (eL 60 rfl (eL 61 rfl eN)))))))))))) ?_
  refine cj_seq fun K70 hK70 => cj_region ?_
  refine Pm ?_
  refine Pm ?_
  refine Pm ?_
  refine Ra Tryz.call25 (start_t b7 b.d idn nn u7 va7 g7 ((D4.crash a.n).open rs tl).2 hin hva7) ?_
  rintro r8 R8 L' hR8 hst
  obtain ⟨bx8, rfl, hv8, rfl⟩ : ∃ bx8, r8 = tupOf [.pointer (some ⟨bx8, 0, none⟩), .int .i64 0] ∧ NOk R8 (NV.new u7 va7) (ND.start idn nn g7) ∧ L' = ndI ⟨bx8, b7, b.d⟩ (NV.new u7 va7) (ND.start idn nn g7) ((D4.crash a.n).open rs tl).2 := by (rcases hst with ⟨h, _⟩ | ⟨_, h⟩; exact absurd h hcd; exact h)
  have hR48 := Hp.le_trans hR7 hR8
  try simp only [cA, nA]
  refine Pm ?_
  refine Pa (y_extract rfl rfl) ?_
  refine Pa (y_extract rfl rfl) ?_
  refine Ps ?_
  refine Ps ?_
  refine rj_nil (hK70 _ _ _ (cj_seq fun K71 hK71 => cj_seq fun K72 hK72 => cj_region ?_))
  refine Pm ?_
  refine Pa (y_neq rfl rfl) ?_
  refine Pm ?_
  refine Pb (y_move rfl) ?_
  refine Pb (y_neq rfl rfl) ?_
  refine Pa (y_pick_f rfl rfl) ?_
  refine rj_nil (hK72 _ _ _ (cj_cond_f rfl (cj_skip (hK71 _ _ _ (cj_region ?_)))))
  refine Pm ?_
  refine Ps ?_
  refine rj_nil ?_
  refine ej_join hJ34 (((ND.start idn nn g7, bx8, b7, NV.new u7 va7, ((D4.crash a.n).open rs tl).2), (.slice none 0 0, []), R8)) (⟨hvs5, rfl, hv8, hR48, FrX.nil, fun _ _ => rfl⟩) (eC rfl (eC rfl (eC rfl (eC rfl (eC rfl (eC rfl (eC rfl (eC rfl (eC rfl (eC rfl (eC rfl eN))))))))))) rfl sb_
  try simp only [dT, dF, nT, nF, tF, fT] at hc103
  refine cj_skip ?_
  refine ej_join hJ34 (((x, bx, bl, v4, D4), (.slice none 0 0, []), R4)) (⟨hvs5, hxo, hxv, Hp.le_refl _, FrX.nil, fun _ _ => rfl⟩) (eC rfl (eC rfl (eC rfl (eC rfl (eC rfl (eC rfl (eC rfl (eC rfl (eC rfl (eC rfl (eC rfl eN))))))))))) rfl sb_
  try simp only [dT, dF, nT, nF, tF, fT] at hc62
  refine cj_exit (hK18 _ _ _ ?_)
  refine cj_env eN ?_
  refine cj_seq fun K73 hK73 => cj_region ?_
  refine Ps ?_
  refine rj_nil (hK73 _ _ _ (cj_ret (hret _ _ _ ?_)))
  refine Ea Tryz.results5 (.cons (rv_tmp rfl) .nil) [] (by first | exact Hp.le_trans hR13 hR4 | exact hR1 | exact Hp.le_trans hR1 hR2 | assumption) ?_
  exact rfl
end V
end Go.Proofs.YtjdbigplednihaaGreat
namespace Go.Proofs.YtjdbigplednihaaGreat
open Go.ChangeShapes Go.WideShapes Go.ChangeAt Go.RowKit
open V
set_option maxHeartbeats 1000000 in
set_option maxRecDepth 100000 in
theorem RaftVotes_holds_lifted (os : Os) (started : os.Started) (H : Type) (enc : TypeId × Value → H) :
    ReturnsInHanded {} Tryz.checked os 5 .any (Rows.raftVotesSpec.pre6 enc Tryz.prog Tryz.f5 Rows.raftVotesRow.domain false) (Rows.raftVotesSpec.post enc Tryz.prog Tryz.f5 false true false false) := by
  refine returnsInHanded_of_change (C := Tryz.checked) own started (by kernel_rfl) Tryz.func5
    (ChangeSpec.witness6 (enc := enc) (C := Tryz.checked) false ⟨#[], #[.int .i64 0, .int .i64 0, .slice none 0 0], []⟩ 8 (by kernel_rfl) (by kernel_rfl) (by kernel_rfl) (by kernel_rfl)) ?_
  intro W base args ds gs before hval0 hW hcnd _
  have hval : ∀ (j : Nat) t v, Tryz.f5.params[j]? = some t → args[j]? = some v → Value.okWide Tryz.prog W .any base t v := hval0
  have hW' := hW
  obtain ⟨p, q, hA0, hV, rfl, hfz, hnd⟩ := hW
  have hA : DataW.TrodAll enc Tryz.prog W 0 (fun _ => true) true Tryz.f5.params.toList args.toList ds p := hA0
  rw [Tryz.params5] at hA hval
  obtain ⟨v0, vs0, d0, ds0, p0, q0, hargs, rfl, rfl, t0, r0⟩ := trodAll_cons hA
  obtain ⟨v1, vs1, d1, ds1, p1, q1, rfl, rfl, rfl, t1, r1⟩ := trodAll_cons r0
  obtain ⟨v2, vs2, d2, ds2, p2, q2, rfl, rfl, rfl, t2, r2⟩ := trodAll_cons r1
  obtain ⟨rfl, rfl, rfl⟩ := trodAll_nil r2
  obtain rfl : args = #[v0, v1, v2] := by cases args; simp_all
  obtain ⟨rfl, rfl⟩ := trodVars_none hV
  have lt0 : ∀ x ∈ p0, x.block < W.heap.size := by obtain ⟨m, hm⟩ := t0; exact DataW.trod_lt m _ _ _ hm
  obtain ⟨y0, h0⟩ : ∃ y, (intR .i64) (oldH W) v0.cells.toList y := by obtain ⟨m, hm⟩ := t0; exact (reads_int Tryz.underlying3) W m _ _ hm
  obtain ⟨n0, rfl⟩ := okWide_int Tryz.underlying3 (hval 0 3 v0 rfl rfl)
  obtain ⟨e0, h0⟩ := h0
  obtain rfl : y0 = n0 := by have := e0; simp [Value.cells] at this; exact this.symm
  have lt1 : ∀ x ∈ p1, x.block < W.heap.size := by obtain ⟨m, hm⟩ := t1; exact DataW.trod_lt m _ _ _ hm
  obtain ⟨y1, h1⟩ : ∃ y, (intR .i64) (oldH W) v1.cells.toList y := by obtain ⟨m, hm⟩ := t1; exact (reads_int Tryz.underlying3) W m _ _ hm
  obtain ⟨n1, rfl⟩ := okWide_int Tryz.underlying3 (hval 1 3 v1 rfl rfl)
  obtain ⟨e1, h1⟩ := h1
  obtain rfl : y1 = n1 := by have := e1; simp [Value.cells] at this; exact this.symm
  have lt2 : ∀ x ∈ p2, x.block < W.heap.size := by obtain ⟨m, hm⟩ := t2; exact DataW.trod_lt m _ _ _ hm
  obtain ⟨y2, h2⟩ : ∃ y, (slcR 15 (pairR 1 (intR .i64) (pairR 1 (intR .i64) (pairR 10 (pairR 1 (intR .i64) (pairR 1 (intR .i64) (pairR 1 (intR .i64) (pairR 1 (intR .u64) (pairR 1 (intR .u64) (pairR 1 (intR .u64) (pairR 1 (intR .u64) (pairR 1 boolR (pairR 1 (slcR 2 (pairR 1 (intR .u64) strR)) strR))))))))) (pairR 1 boolR (pairR 1 (intR .u64) strR)))))) (oldH W) v2.cells.toList y := by obtain ⟨m, hm⟩ := t2; exact (reads_slc Tryz.underlying50 (by kernel_rfl) (by decide) (reads_struct Tryz.underlying54 (by kernel_rfl) (readsF_cons rfl (by kernel_rfl) (reads_int Tryz.underlying3) (readsF_cons rfl (by kernel_rfl) (reads_int Tryz.underlying3) (readsF_cons rfl (by kernel_rfl) (reads_struct Tryz.underlying48 (by kernel_rfl) (readsF_cons rfl (by kernel_rfl) (reads_int Tryz.underlying3) (readsF_cons rfl (by kernel_rfl) (reads_int Tryz.underlying3) (readsF_cons rfl (by kernel_rfl) (reads_int Tryz.underlying3) (readsF_cons rfl (by kernel_rfl) (reads_int Tryz.underlying31) (readsF_cons rfl (by kernel_rfl) (reads_int Tryz.underlying31) (readsF_cons rfl (by kernel_rfl) (reads_int Tryz.underlying31) (readsF_cons rfl (by kernel_rfl) (reads_int Tryz.underlying31) (readsF_cons rfl (by kernel_rfl) (reads_bool Tryz.underlying4) (readsF_cons rfl (by kernel_rfl) (reads_slc Tryz.underlying32 (by kernel_rfl) (by decide) (reads_struct Tryz.underlying60 (by kernel_rfl) (readsF_cons rfl (by kernel_rfl) (reads_int Tryz.underlying31) (readsF_one rfl (reads_str Tryz.underlying9))))) (readsF_one rfl (reads_str Tryz.underlying9)))))))))))) (readsF_cons rfl (by kernel_rfl) (reads_bool Tryz.underlying4) (readsF_cons rfl (by kernel_rfl) (reads_int Tryz.underlying31) (readsF_one rfl (reads_str Tryz.underlying9))))))))) W m _ _ hm
  obtain ⟨a2, len2, cap2, rfl⟩ := okWide_slice Tryz.underlying50 (hval 2 50 v2 rfl rfl)
  obtain ⟨v2, hv2⟩ : ∃ v, v = Value.slice a2 len2 cap2 := ⟨_, rfl⟩
  replace h2 : (slcR 15 (pairR 1 (intR .i64) (pairR 1 (intR .i64) (pairR 10 (pairR 1 (intR .i64) (pairR 1 (intR .i64) (pairR 1 (intR .i64) (pairR 1 (intR .u64) (pairR 1 (intR .u64) (pairR 1 (intR .u64) (pairR 1 (intR .u64) (pairR 1 boolR (pairR 1 (slcR 2 (pairR 1 (intR .u64) strR)) strR))))))))) (pairR 1 boolR (pairR 1 (intR .u64) strR)))))) (oldH W) [v2] y2 := by rw [hv2]; exact h2
  clear hA0 hval0
  subst hv2
  refine (law_calls (raftVotes_t y0 y1 h0 h1 _ y2 h2)).mono fun e W' ⟨he, bel⟩ => ?_
  subst he
  exact ⟨_, rfl, _, _, _, [], _, [], hW', trodAll_mk1 (shut_bool Tryz.underlying4 _), (trodAll_cons_mk (Below.trod laidOut (by kernel_rfl) (of_decide_eq_true (by kernel_rfl)) t0 bel lt0) (trodAll_cons_mk (Below.trod laidOut (by kernel_rfl) (of_decide_eq_true (by kernel_rfl)) t1 bel lt1) (trodAll_cons_mk (Below.trod laidOut (by kernel_rfl) (of_decide_eq_true (by kernel_rfl)) t2 bel lt2) trodAll_mk0))), rfl, bel.frame _, fun h => by cases h⟩
theorem RaftVotes_holds : Rows.RaftVotesSaid :=
  OpenClaim.holds_of_wide 5 Tryz.f5 rfl rfl rfl rfl rfl rfl rfl ⟨rfl, rfl, rfl, rfl, rfl⟩ rfl rfl rfl rfl rfl (by kernel_rfl) Tryz.func5 (by kernel_rfl)
    (of_decide_eq_true (by kernel_rfl)) (by unfold Func.isWrapper; first | (rw [if_pos (by decide +kernel)]; kernel_rfl) | (rw [if_neg (by decide +kernel)]; exact ⟨rfl, rfl⟩))
    (fun os started H enc _ => RaftVotes_holds_lifted os started H enc)
#print axioms RaftVotes_holds
end Go.Proofs.YtjdbigplednihaaGreat
