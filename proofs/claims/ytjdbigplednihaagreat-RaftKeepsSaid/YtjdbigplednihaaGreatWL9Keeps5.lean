/- The law RaftKeeps of layer 9, for every input: entries up to the commit index never change, and that index never goes back. -/
import Derived.Test.YtjdbigplednihaaGreatWL9Keeps4
set_option linter.unusedSimpArgs false
set_option linter.unusedVariables false
set_option maxRecDepth 100000
namespace Go.Proofs.YtjdbigplednihaaGreat
open Go.RowKit
namespace V
set_option maxHeartbeats 4000000
structure Ac where
  what : Int
  n : Int
  m : Msg
  near : Bool
  index : Int
  text : Bs
def acC (a : Ac) (ve : Value) : List Value := .int .i64 a.what :: .int .i64 a.n :: (msgC a.m ve ++ [.bool a.near, .int .u64 a.index, .string (str a.text)])
theorem acC_one {a : Ac} {ve : Value} (h : ve.oneCell' = true) : ∀ u ∈ acC a ve, u.oneCell' = true := fun u hu => by
  rcases List.mem_cons.1 hu with rfl | hu
  · rfl
  · rcases List.mem_cons.1 hu with rfl | hu
    · rfl
    · rcases List.mem_append.1 hu with hu | hu
      · exact msgC_one h u hu
      · simp at hu; rcases hu with rfl | rfl | rfl <;> rfl
def acE : Elt Ac where
  P := fun R a cs => ∃ ve, cs = acC a ve ∧ FrX entE R a.m.es ve
  sz := 15
  mono := fun hR ⟨ve, h, k⟩ => ⟨ve, h, k.mono hR⟩
  len := fun ⟨ve, h, k⟩ => by subst h; rfl
  one := fun ⟨ve, h, k⟩ u hu => by subst h; exact acC_one k.one u hu
structure Ac.Bd (a : Ac) : Prop where
  m : a.m.Bd
  n : i64B a.n
  index : u64B a.index
abbrev AcY := Int × Int × MsgY × Bool × Int × List UInt8
abbrev acR : Rdr AcY := pairR 1 (intR .i64) (pairR 1 (intR .i64) (pairR 10 msgR (pairR 1 boolR (pairR 1 (intR .u64) strR))))
def acOf (y : AcY) : Ac := ⟨y.1, y.2.1, msgOf y.2.2.1, y.2.2.2.1, y.2.2.2.2.1, y.2.2.2.2.2⟩
theorem acR_E {R : Hp} {cs : List Value} {y : AcY} (hl : cs.length = 15) (h : acR R cs y) : acE.P R (acOf y) cs ∧ (acOf y).Bd := by
  match cs, hl with
  | c0 :: c1 :: c2 :: c3 :: c4 :: c5 :: c6 :: c7 :: c8 :: c9 :: c10 :: c11 :: c12 :: c13 :: [c14], _ =>
    obtain ⟨⟨e0, b0⟩, ⟨e1, b1⟩, h2, e3, ⟨e4, b4⟩, e5, b5⟩ := h
    simp only [List.take_succ_cons, List.take_zero, List.drop_succ_cons, List.drop_zero, List.cons.injEq, and_true] at e0 e1 e3 e4 e5 h2
    obtain ⟨⟨ve, e2, hve⟩, bd⟩ := msgR_E rfl h2
    have e3' : [c12] = [.bool y.2.2.2.1] := e3
    simp only [List.cons.injEq, and_true] at e3'
    refine ⟨⟨ve, ?_, hve⟩, ⟨bd, i64B_of b1, u64B_of b4⟩⟩
    unfold acC
    show _ = Value.int .i64 y.1 :: Value.int .i64 y.2.1 :: (msgC (msgOf y.2.2.1) ve ++ [.bool y.2.2.2.1, .int .u64 y.2.2.2.2.1, .string (str y.2.2.2.2.2)])
    rw [← e2, e0, e1, e3', e4, e5]
    rfl
theorem acts_in {R : Hp} {v : Value} {ys : List AcY} (h : slcR 15 acR R [v] ys) : FrX acE R (ys.map acOf) v ∧ ∀ a ∈ ys.map acOf, a.Bd := by
  refine ⟨slcR_frx (T := acE) acOf (fun c x hc h => (acR_E hc h).1) h, fun m hm => ?_⟩
  obtain ⟨y, hy, rfl⟩ := List.mem_map.1 hm
  obtain ⟨q, cap, _, _, _, h3⟩ := h
  rcases h3 with rfl | ⟨b, off, _, hz⟩
  · simp at hy
  · obtain ⟨i, hi, rfl⟩ := List.getElem_of_mem hy
    obtain ⟨c, h1, _, h2⟩ := hz i hi
    exact (acR_E h1 h2).2
structure Ac.sm (a : Ac) : Prop where
  n : a.what = 0 → 0 ≤ a.n ∧ a.n ≤ 50
  text : a.text.length ≤ 100
  state : a.m.state.length ≤ 100
  es : a.m.es.length ≤ 12 ∧ ∀ e ∈ a.m.es, e.2.length ≤ 100 ∧ e.1 ≤ 4294967296
  term : a.m.term ≤ 4294967296
  mindex : a.m.index ≤ 4294967296
  logTerm : a.m.logTerm ≤ 4294967296
  commit : a.m.commit ≤ 4294967296
  index : a.index ≤ 4294967296
theorem small_succ9 {α : Type} {p : α → Prop} {l : List α} {i : Nat} {x : α} (h : ∀ y ∈ l.take i, p y) (hx : l[i]? = some x) (hp : p x) : ∀ y ∈ l.take (i + 1), p y := fun y hy => by
  rw [List.take_add_one, hx] at hy
  rcases List.mem_append.1 hy with hy | hy
  · exact h y hy
  · simp at hy; subst hy; exact hp
theorem small9_t {R : Hp} (va : Value) (acts : List Ac) (hva : FrX acE R acts va) (n : Int) : Tri Tryz.prog 15 [va, .int .i64 n] R []
    (fun x R' L' => (∃ s, x = .bool s ∧ (s = true → (acts.length : Int) ≤ n ∧ ∀ a ∈ acts, a.sm)) ∧ L' = []) := by
  obtain ⟨q, cap, rfl, hq1, hq2⟩ := hva.shape
  unfold maxLen at hq2
  refine tri_of Tryz.func15 rfl Tryz.ntmps15 rfl (fun σ F Q hret hend hpan => ?_)
  try simp only [cA, nA]
  refine cj_seq fun K1 hK1 => cj_region ?_
  refine Ps ?_
  refine rj_nil (hK1 _ _ _ (cj_seq fun K2 hK2 => cj_seq fun K3 hK3 => cj_region ?_))
  refine Pm ?_
  first | refine Pa (y_len_sl Tryz.underlying50 rfl) ?_ | refine Pa (y_len_slc Tryz.underlying50 rfl fd_) ?_
  refine Pm ?_
  refine Pa (y_gtr rfl rfl) ?_
  refine rj_nil (hK3 _ _ _ ?_)
  refine cj_cond rfl (fun hc13 => ?_) (fun hc13 => ?_)
  try simp only [dT, dF, nT, nF, tF, fT] at hc13
  refine cj_seq fun K5 hK5 => cj_region ?_
  refine Ps ?_
  refine rj_nil (hK5 _ _ _ (cj_ret (hret _ _ _ ?_)))
  refine Ea Tryz.results15 (.cons (rv_tmp rfl) .nil) [] le_ ?_
  first|(exact ⟨⟨true, rfl, fun _ => ⟨hlen, by rw [List.take_of_length_le (by (try simp at hc17); omega)] at hs; exact hs⟩⟩, rfl⟩)|exact ⟨⟨false, rfl, fun h => by cases h⟩, rfl⟩
  have hlen : (acts.length : Int) ≤ n := by (try simp at hc13); omega
  refine cj_skip (hK2 _ _ _ (cj_seq fun K6 hK6 => cj_seq fun K7 hK7 => cj_region ?_))
  refine Pm ?_
  first | refine Pa (y_len_sl Tryz.underlying50 rfl) ?_ | refine Pa (y_len_slc Tryz.underlying50 rfl fd_) ?_
  refine Pm ?_
  refine rj_nil (hK7 _ _ _ (cj_block ?_))
  refine cj_env (E' := (fun (x1 : Nat) => [(14, .slice q acts.length cap), (15, .int .i64 (acts.length : Int)), (16, .int .i64 (x1 : Int))]) 0) (eC rfl (eC rfl (eC rfl eN))) ?_
  refine cj_sub (M := (fun (x1 : Nat) => F) 0) sb_ ?_
  refine cj_loop (fun (x1 : Nat) => [(14, .slice q acts.length cap), (15, .int .i64 (acts.length : Int)), (16, .int .i64 (x1 : Int))]) (fun (x1 : Nat) => R) (fun (x1 : Nat) => F) (fun (x1 : Nat) => x1 ≤ acts.length ∧ ∀ a ∈ acts.take x1, a.sm) (fun (x1 : Nat) => acts.length - x1) 0 (⟨by simp, fun l hl => by simp at hl⟩) ?_
  rintro i ⟨hi, hs⟩
  try dsimp only
  refine cj_seq fun K8 hK8 => cj_region ?_
  refine Pa (y_lss rfl rfl) ?_
  refine rj_nil (hK8 _ _ _ (cj_seq fun K9 hK9 => ?_))
  refine cj_cond rfl (fun hc17 => ?_) (fun hc17 => ?_)
  try simp only [dT, dF, nT, nF, tF, fT] at hc17
  refine cj_skip (hK9 _ _ _ (cj_seq fun K11 hK11 => cj_block (cj_seq fun K12 hK12 => ?_)))
  have hi2 : i < acts.length := by (try simp at hc17); omega
  obtain ⟨a, ha⟩ : ∃ x, acts[i]? = some x := ⟨_, List.getElem?_eq_getElem hi2⟩
  obtain ⟨be, oe, ce, cse, hee, ⟨ve, rfl, hve⟩, _, hcell⟩ := hva.at ha
  obtain ⟨rfl, rfl⟩ : q = some ⟨be, oe, none⟩ ∧ cap = ce := by cases hee; exact ⟨rfl, rfl⟩
  have hveo := hve.one
  obtain ⟨ql, cl, rfl, hl1, hl2⟩ := hve.shape
  unfold maxLen at hl2
  refine cj_region ?_
  first | refine Pa (y_indexAddr Tryz.underlying50 Tryz.sizeOf54 rfl rfl om_) ?_ | refine Pa (y_index_slc Tryz.underlying50 Tryz.sizeOf54 rfl rfl fd_ om_) ?_
  refine Pa ((y_loads_ro m54 (vs := acC a (.slice ql a.m.es.length cl)) rfl rfl (fun j u hj => hcell j u hj))) ?_
  refine rj_alloc (wn0 rfl) rfl Tryz.zeroValue54 rfl (fun b6 => ?_)
  refine Sm (vs := acC a (.slice ql a.m.es.length cl)) m54 (acC_one hveo) ?_
  refine rj_nil (hK12 _ _ _ (cj_seq fun K13 hK13 => cj_region ?_))
  refine Pa (Ga Tryz.underlying54 Tryz.sizeOf48) ?_
  refine Pa ((Lb (vs := msgC a.m (.slice ql a.m.es.length cl)) m48)) ?_
  refine rj_alloc (wn0 rfl) rfl Tryz.zeroValue48 rfl (fun b7 => ?_)
  refine Sm (vs := msgC a.m (.slice ql a.m.es.length cl)) m48 (msgC_one hveo) ?_
  refine rj_nil (hK13 _ _ _ (cj_seq fun K14 hK14 => cj_seq fun K15 hK15 => cj_region ?_))
  refine Pa (Ga Tryz.underlying54 Tryz.sizeOf3) ?_
  first | refine Pa (La o3) ?_ | refine Pa (Ls o3) ?_
  refine Pa (y_eql rfl rfl) ?_
  refine Pm ?_
  refine rj_part 25 rfl (fun hg25 => ?_) (fun hg25 => ?_)
  have k0 : a.what = 0 := by simpa using hg25
  refine Pb (Ga Tryz.underlying54 Tryz.sizeOf3) ?_
  first | refine Pb (La o3) ?_ | refine Pb (Ls o3) ?_
  refine Pb (y_lss rfl rfl) ?_
  refine Pb (y_move rfl) ?_
  refine rj_part 29 rfl (fun hg29 => ?_) (fun hg29 => ?_)
  try simp only [dT, dF, nT, nF, tF, fT] at hg29
  refine Pk ?_
  refine Pk ?_
  refine Pk ?_
  refine Pb (y_pick_t rfl rfl) ?_
  refine Pa (y_pick_t rfl rfl) ?_
  refine Pm ?_
  refine Pk ?_
  refine Pk ?_
  refine Pk ?_
  refine Pk ?_
  refine Pa (y_pick_t rfl rfl) ?_
  refine Pm ?_
  refine Pk ?_
  refine Pk ?_
  refine Pk ?_
  refine Pk ?_
  refine Pa (y_pick_t rfl rfl) ?_
  refine Pm ?_
  refine Pk ?_
  refine Pk ?_
  refine Pk ?_
  refine Pk ?_
  refine Pa (y_pick_t rfl rfl) ?_
  refine Pm ?_
  refine Pk ?_
  refine Pk ?_
  refine Pk ?_
  refine Pa (y_pick_t rfl rfl) ?_
  refine Pm ?_
  refine Pk ?_
  refine Pk ?_
  refine Pk ?_
  refine Pa (y_pick_t rfl rfl) ?_
  refine Pm ?_
  refine Pk ?_
  refine Pk ?_
  refine Pk ?_
  refine Pa (y_pick_t rfl rfl) ?_
  refine Pm ?_
  refine Pk ?_
  refine Pk ?_
  refine Pk ?_
  refine Pa (y_pick_t rfl rfl) ?_
  refine Pm ?_
  refine Pk ?_
  refine Pk ?_
  refine Pk ?_
  refine Pa (y_pick_t rfl rfl) ?_
  refine rj_nil (hK15 _ _ _ ?_)
  refine cj_env (eL 7 rfl (eL 14 rfl (eL 15 rfl (eL 16 rfl (eL 77 rfl eN))))) ?_
  refine cj_cond_t rfl (cj_seq fun K16 hK16 => cj_region ?_)
  refine Ps ?_
  refine rj_nil (hK16 _ _ _ (cj_ret (hret _ _ _ ?_)))
  refine Ea Tryz.results15 (.cons (rv_tmp rfl) .nil) [] le_ ?_
  first|(exact ⟨⟨true, rfl, fun _ => ⟨hlen, by rw [List.take_of_length_le (by (try simp at hc17); omega)] at hs; exact hs⟩⟩, rfl⟩)|exact ⟨⟨false, rfl, fun h => by cases h⟩, rfl⟩
  first|(have k1 : ¬ a.n < 0 := by simpa using hg29)|skip
  refine Pb (Ga Tryz.underlying54 Tryz.sizeOf3) ?_
  first | refine Pb (La o3) ?_ | refine Pb (Ls o3) ?_
  refine Pb (y_gtr rfl rfl) ?_
  refine Pb (y_pick_f rfl rfl) ?_
  refine Pa (y_pick_t rfl rfl) ?_
  refine Pm ?_
  refine rj_part 35 rfl (fun hg35 => ?_) (fun hg35 => ?_)
  try simp only [dT, dF, nT, nF, tF, fT] at hg35
  refine Pk ?_
  refine Pk ?_
  refine Pk ?_
  refine Pk ?_
  refine Pa (y_pick_t rfl rfl) ?_
  refine Pm ?_
  refine Pk ?_
  refine Pk ?_
  refine Pk ?_
  refine Pk ?_
  refine Pa (y_pick_t rfl rfl) ?_
  refine Pm ?_
  refine Pk ?_
  refine Pk ?_
  refine Pk ?_
  refine Pk ?_
  refine Pa (y_pick_t rfl rfl) ?_
  refine Pm ?_
  refine Pk ?_
  refine Pk ?_
  refine Pk ?_
  refine Pa (y_pick_t rfl rfl) ?_
  refine Pm ?_
  refine Pk ?_
  refine Pk ?_
  refine Pk ?_
  refine Pa (y_pick_t rfl rfl) ?_
  refine Pm ?_
  refine Pk ?_
  refine Pk ?_
  refine Pk ?_
  refine Pa (y_pick_t rfl rfl) ?_
  refine Pm ?_
  refine Pk ?_
  refine Pk ?_
  refine Pk ?_
  refine Pa (y_pick_t rfl rfl) ?_
  refine Pm ?_
  refine Pk ?_
  refine Pk ?_
  refine Pk ?_
  refine Pa (y_pick_t rfl rfl) ?_
  refine rj_nil (hK15 _ _ _ ?_)
  refine cj_env (eL 7 rfl (eL 14 rfl (eL 15 rfl (eL 16 rfl (eL 77 rfl eN))))) ?_
  refine cj_cond_t rfl (cj_seq fun K17 hK17 => cj_region ?_)
  refine Ps ?_
  refine rj_nil (hK17 _ _ _ (cj_ret (hret _ _ _ ?_)))
  refine Ea Tryz.results15 (.cons (rv_tmp rfl) .nil) [] le_ ?_
  first|(exact ⟨⟨true, rfl, fun _ => ⟨hlen, by rw [List.take_of_length_le (by (try simp at hc17); omega)] at hs; exact hs⟩⟩, rfl⟩)|exact ⟨⟨false, rfl, fun h => by cases h⟩, rfl⟩
  first|(have g1 : a.what = 0 → 0 ≤ a.n ∧ a.n ≤ 50 := fun _ => by (try simp at hg35); omega)|skip
  refine Pb (Ga Tryz.underlying54 Tryz.sizeOf9) ?_
  first | refine Pb (La o9) ?_ | refine Pb (Ls o9) ?_
  refine Pb (y_slen Tryz.underlying9 rfl) ?_
  refine Pb (y_gtr rfl rfl) ?_
  refine Pa (y_pick_f rfl rfl) ?_
  refine Pm ?_
  refine rj_part 41 rfl (fun hg41 => ?_) (fun hg41 => ?_)
  try simp only [dT, dF, nT, nF, tF, fT] at hg41
  refine Pk ?_
  refine Pk ?_
  refine Pk ?_
  refine Pk ?_
  refine Pa (y_pick_t rfl rfl) ?_
  refine Pm ?_
  refine Pk ?_
  refine Pk ?_
  refine Pk ?_
  refine Pk ?_
  refine Pa (y_pick_t rfl rfl) ?_
  refine Pm ?_
  refine Pk ?_
  refine Pk ?_
  refine Pk ?_
  refine Pa (y_pick_t rfl rfl) ?_
  refine Pm ?_
  refine Pk ?_
  refine Pk ?_
  refine Pk ?_
  refine Pa (y_pick_t rfl rfl) ?_
  refine Pm ?_
  refine Pk ?_
  refine Pk ?_
  refine Pk ?_
  refine Pa (y_pick_t rfl rfl) ?_
  refine Pm ?_
  refine Pk ?_
  refine Pk ?_
  refine Pk ?_
  refine Pa (y_pick_t rfl rfl) ?_
  refine Pm ?_
  refine Pk ?_
  refine Pk ?_
  refine Pk ?_
  refine Pa (y_pick_t rfl rfl) ?_
  refine rj_nil (hK15 _ _ _ ?_)
  refine cj_env (eL 7 rfl (eL 14 rfl (eL 15 rfl (eL 16 rfl (eL 77 rfl eN))))) ?_
  refine cj_cond_t rfl (cj_seq fun K18 hK18 => cj_region ?_)
  refine Ps ?_
  refine rj_nil (hK18 _ _ _ (cj_ret (hret _ _ _ ?_)))
  refine Ea Tryz.results15 (.cons (rv_tmp rfl) .nil) [] le_ ?_
  first|(exact ⟨⟨true, rfl, fun _ => ⟨hlen, by rw [List.take_of_length_le (by (try simp at hc17); omega)] at hs; exact hs⟩⟩, rfl⟩)|exact ⟨⟨false, rfl, fun h => by cases h⟩, rfl⟩
  have g3 : a.text.length ≤ 100 := by (try simp at hg41); omega
  refine Pb (Ga Tryz.underlying48 Tryz.sizeOf9) ?_
  first | refine Pb (La o9) ?_ | refine Pb (Ls o9) ?_
  refine Pb (y_slen Tryz.underlying9 rfl) ?_
  refine Pb (y_gtr rfl rfl) ?_
  refine Pa (y_pick_f rfl rfl) ?_
  refine Pm ?_
  refine rj_part 47 rfl (fun hg47 => ?_) (fun hg47 => ?_)
  try simp only [dT, dF, nT, nF, tF, fT] at hg47
  refine Pk ?_
  refine Pk ?_
  refine Pk ?_
  refine Pk ?_
  refine Pa (y_pick_t rfl rfl) ?_
  refine Pm ?_
  refine Pk ?_
  refine Pk ?_
  refine Pk ?_
  refine Pa (y_pick_t rfl rfl) ?_
  refine Pm ?_
  refine Pk ?_
  refine Pk ?_
  refine Pk ?_
  refine Pa (y_pick_t rfl rfl) ?_
  refine Pm ?_
  refine Pk ?_
  refine Pk ?_
  refine Pk ?_
  refine Pa (y_pick_t rfl rfl) ?_
  refine Pm ?_
  refine Pk ?_
  refine Pk ?_
  refine Pk ?_
  refine Pa (y_pick_t rfl rfl) ?_
  refine Pm ?_
  refine Pk ?_
  refine Pk ?_
  refine Pk ?_
  refine Pa (y_pick_t rfl rfl) ?_
  refine rj_nil (hK15 _ _ _ ?_)
  refine cj_env (eL 7 rfl (eL 14 rfl (eL 15 rfl (eL 16 rfl (eL 77 rfl eN))))) ?_
  refine cj_cond_t rfl (cj_seq fun K19 hK19 => cj_region ?_)
  refine Ps ?_
  refine rj_nil (hK19 _ _ _ (cj_ret (hret _ _ _ ?_)))
  refine Ea Tryz.results15 (.cons (rv_tmp rfl) .nil) [] le_ ?_
  first|(exact ⟨⟨true, rfl, fun _ => ⟨hlen, by rw [List.take_of_length_le (by (try simp at hc17); omega)] at hs; exact hs⟩⟩, rfl⟩)|exact ⟨⟨false, rfl, fun h => by cases h⟩, rfl⟩
  have g4 : a.m.state.length ≤ 100 := by (try simp at hg47); omega
  refine Pb (Ga Tryz.underlying48 Tryz.sizeOf32) ?_
  first | refine Pb (La o32) ?_ | refine Pb (Ls o32) ?_
  first | refine Pb (y_len_sl Tryz.underlying32 rfl) ?_ | refine Pb (y_len_slc Tryz.underlying32 rfl fd_) ?_
  refine Pb (y_gtr rfl rfl) ?_
  refine Pa (y_pick_f rfl rfl) ?_
  refine Pm ?_
  refine rj_part 53 rfl (fun hg53 => ?_) (fun hg53 => ?_)
  try simp only [dT, dF, nT, nF, tF, fT] at hg53
  refine Pk ?_
  refine Pk ?_
  refine Pk ?_
  refine Pa (y_pick_t rfl rfl) ?_
  refine Pm ?_
  refine Pk ?_
  refine Pk ?_
  refine Pk ?_
  refine Pa (y_pick_t rfl rfl) ?_
  refine Pm ?_
  refine Pk ?_
  refine Pk ?_
  refine Pk ?_
  refine Pa (y_pick_t rfl rfl) ?_
  refine Pm ?_
  refine Pk ?_
  refine Pk ?_
  refine Pk ?_
  refine Pa (y_pick_t rfl rfl) ?_
  refine Pm ?_
  refine Pk ?_
  refine Pk ?_
  refine Pk ?_
  refine Pa (y_pick_t rfl rfl) ?_
  refine rj_nil (hK15 _ _ _ ?_)
  refine cj_env (eL 7 rfl (eL 14 rfl (eL 15 rfl (eL 16 rfl (eL 77 rfl eN))))) ?_
  refine cj_cond_t rfl (cj_seq fun K20 hK20 => cj_region ?_)
  refine Ps ?_
  refine rj_nil (hK20 _ _ _ (cj_ret (hret _ _ _ ?_)))
  refine Ea Tryz.results15 (.cons (rv_tmp rfl) .nil) [] le_ ?_
  first|(exact ⟨⟨true, rfl, fun _ => ⟨hlen, by rw [List.take_of_length_le (by (try simp at hc17); omega)] at hs; exact hs⟩⟩, rfl⟩)|exact ⟨⟨false, rfl, fun h => by cases h⟩, rfl⟩
  have g5 : a.m.es.length ≤ 12 := by (try simp at hg53); omega
  refine Pb (Ga Tryz.underlying48 Tryz.sizeOf31) ?_
  first | refine Pb (La o31) ?_ | refine Pb (Ls o31) ?_
  refine Pb (y_gtr rfl rfl) ?_
  refine Pa (y_pick_f rfl rfl) ?_
  refine Pm ?_
  refine rj_part 58 rfl (fun hg58 => ?_) (fun hg58 => ?_)
  try simp only [dT, dF, nT, nF, tF, fT] at hg58
  refine Pk ?_
  refine Pk ?_
  refine Pk ?_
  refine Pa (y_pick_t rfl rfl) ?_
  refine Pm ?_
  refine Pk ?_
  refine Pk ?_
  refine Pk ?_
  refine Pa (y_pick_t rfl rfl) ?_
  refine Pm ?_
  refine Pk ?_
  refine Pk ?_
  refine Pk ?_
  refine Pa (y_pick_t rfl rfl) ?_
  refine Pm ?_
  refine Pk ?_
  refine Pk ?_
  refine Pk ?_
  refine Pa (y_pick_t rfl rfl) ?_
  refine rj_nil (hK15 _ _ _ ?_)
  refine cj_env (eL 7 rfl (eL 14 rfl (eL 15 rfl (eL 16 rfl (eL 77 rfl eN))))) ?_
  refine cj_cond_t rfl (cj_seq fun K21 hK21 => cj_region ?_)
  refine Ps ?_
  refine rj_nil (hK21 _ _ _ (cj_ret (hret _ _ _ ?_)))
  refine Ea Tryz.results15 (.cons (rv_tmp rfl) .nil) [] le_ ?_
  first|(exact ⟨⟨true, rfl, fun _ => ⟨hlen, by rw [List.take_of_length_le (by (try simp at hc17); omega)] at hs; exact hs⟩⟩, rfl⟩)|exact ⟨⟨false, rfl, fun h => by cases h⟩, rfl⟩
  have g6 : a.m.term ≤ 4294967296 := by (try simp at hg58); omega
  refine Pb (Ga Tryz.underlying48 Tryz.sizeOf31) ?_
  first | refine Pb (La o31) ?_ | refine Pb (Ls o31) ?_
  refine Pb (y_gtr rfl rfl) ?_
  refine Pa (y_pick_f rfl rfl) ?_
  refine Pm ?_
  refine rj_part 63 rfl (fun hg63 => ?_) (fun hg63 => ?_)
  try simp only [dT, dF, nT, nF, tF, fT] at hg63
  refine Pk ?_
  refine Pk ?_
  refine Pk ?_
  refine Pa (y_pick_t rfl rfl) ?_
  refine Pm ?_
  refine Pk ?_
  refine Pk ?_
  refine Pk ?_
  refine Pa (y_pick_t rfl rfl) ?_
  refine Pm ?_
  refine Pk ?_
  refine Pk ?_
  refine Pk ?_
  refine Pa (y_pick_t rfl rfl) ?_
  refine rj_nil (hK15 _ _ _ ?_)
  refine cj_env (eL 7 rfl (eL 14 rfl (eL 15 rfl (eL 16 rfl (eL 77 rfl eN))))) ?_
  refine cj_cond_t rfl (cj_seq fun K22 hK22 => cj_region ?_)
  refine Ps ?_
  refine rj_nil (hK22 _ _ _ (cj_ret (hret _ _ _ ?_)))
  refine Ea Tryz.results15 (.cons (rv_tmp rfl) .nil) [] le_ ?_
  first|(exact ⟨⟨true, rfl, fun _ => ⟨hlen, by rw [List.take_of_length_le (by (try simp at hc17); omega)] at hs; exact hs⟩⟩, rfl⟩)|exact ⟨⟨false, rfl, fun h => by cases h⟩, rfl⟩
  have g7 : a.m.index ≤ 4294967296 := by (try simp at hg63); omega
  refine Pb (Ga Tryz.underlying48 Tryz.sizeOf31) ?_
  first | refine Pb (La o31) ?_ | refine Pb (Ls o31) ?_
  refine Pb (y_gtr rfl rfl) ?_
  refine Pa (y_pick_f rfl rfl) ?_
  refine Pm ?_
  refine rj_part 68 rfl (fun hg68 => ?_) (fun hg68 => ?_)
  try simp only [dT, dF, nT, nF, tF, fT] at hg68
  refine Pk ?_
  refine Pk ?_
  refine Pk ?_
  refine Pa (y_pick_t rfl rfl) ?_
  refine Pm ?_
  refine Pk ?_
  refine Pk ?_
  refine Pk ?_
  refine Pa (y_pick_t rfl rfl) ?_
  refine rj_nil (hK15 _ _ _ (cj_cond_t rfl (cj_seq fun K23 hK23 => cj_region ?_)))
  refine Ps ?_
  refine rj_nil (hK23 _ _ _ (cj_ret (hret _ _ _ ?_)))
  refine Ea Tryz.results15 (.cons (rv_tmp rfl) .nil) [] le_ ?_
  first|(exact ⟨⟨true, rfl, fun _ => ⟨hlen, by rw [List.take_of_length_le (by (try simp at hc17); omega)] at hs; exact hs⟩⟩, rfl⟩)|exact ⟨⟨false, rfl, fun h => by cases h⟩, rfl⟩
  have g8 : a.m.logTerm ≤ 4294967296 := by (try simp at hg68); omega
  refine Pb (Ga Tryz.underlying48 Tryz.sizeOf31) ?_
  first | refine Pb (La o31) ?_ | refine Pb (Ls o31) ?_
  refine Pb (y_gtr rfl rfl) ?_
  refine Pa (y_pick_f rfl rfl) ?_
  refine Pm ?_
  refine rj_part 73 rfl (fun hg73 => ?_) (fun hg73 => ?_)
  try simp only [dT, dF, nT, nF, tF, fT] at hg73
  refine Pk ?_
  refine Pk ?_
  refine Pk ?_
  refine Pa (y_pick_t rfl rfl) ?_
  refine rj_nil (hK15 _ _ _ ?_)
  refine cj_env (eL 7 rfl (eL 14 rfl (eL 15 rfl (eL 16 rfl (eL 77 rfl eN))))) ?_
  refine cj_cond_t rfl (cj_seq fun K24 hK24 => cj_region ?_)
  refine Ps ?_
  refine rj_nil (hK24 _ _ _ (cj_ret (hret _ _ _ ?_)))
  refine Ea Tryz.results15 (.cons (rv_tmp rfl) .nil) [] le_ ?_
  first|(exact ⟨⟨true, rfl, fun _ => ⟨hlen, by rw [List.take_of_length_le (by (try simp at hc17); omega)] at hs; exact hs⟩⟩, rfl⟩)|exact ⟨⟨false, rfl, fun h => by cases h⟩, rfl⟩
  have g9 : a.m.commit ≤ 4294967296 := by (try simp at hg73); omega
  refine Pb (Ga Tryz.underlying54 Tryz.sizeOf31) ?_
  first | refine Pb (La o31) ?_ | refine Pb (Ls o31) ?_
  refine Pb (y_gtr rfl rfl) ?_
  refine Pa (y_pick_f rfl rfl) ?_
  refine rj_nil (hK15 _ _ _ ?_)
  refine cj_cond rfl (fun hc77 => ?_) (fun hc77 => ?_)
  try simp only [dT, dF, nT, nF, tF, fT] at hc77
  refine cj_seq fun K26 hK26 => cj_region ?_
  refine Ps ?_
  refine rj_nil (hK26 _ _ _ (cj_ret (hret _ _ _ ?_)))
  refine Ea Tryz.results15 (.cons (rv_tmp rfl) .nil) [] le_ ?_
  first|(exact ⟨⟨true, rfl, fun _ => ⟨hlen, by rw [List.take_of_length_le (by (try simp at hc17); omega)] at hs; exact hs⟩⟩, rfl⟩)|exact ⟨⟨false, rfl, fun h => by cases h⟩, rfl⟩
  have g10 : a.index ≤ 4294967296 := by (try simp at hc77); omega
  refine cj_skip (hK14 _ _ _ (cj_seq fun K27 hK27 => cj_region ?_))
  refine Pa (Ga Tryz.underlying48 Tryz.sizeOf32) ?_
  first | refine Pa (La o32) ?_ | refine Pa (Ls o32) ?_
  first | refine Pa (y_len_sl Tryz.underlying32 rfl) ?_ | refine Pa (y_len_slc Tryz.underlying32 rfl fd_) ?_
  refine Pm ?_
  refine rj_nil (hK27 _ _ _ (cj_block ?_))
  refine cj_env (E' := (fun (x2 : Nat) => [(14, .slice (some ⟨be, oe, none⟩) acts.length cap), (15, .int .i64 (acts.length : Int)), (16, .int .i64 (i : Int)), (79, .slice ql a.m.es.length cl), (80, .int .i64 (a.m.es.length : Int)), (81, .int .i64 (x2 : Int))]) 0) (eC rfl (eC rfl (eC rfl (eC rfl (eC rfl (eC rfl eN)))))) ?_
  refine cj_sub (M := (fun (x2 : Nat) => F) 0) sb_ ?_
  refine cj_loop (fun (x2 : Nat) => [(14, .slice (some ⟨be, oe, none⟩) acts.length cap), (15, .int .i64 (acts.length : Int)), (16, .int .i64 (i : Int)), (79, .slice ql a.m.es.length cl), (80, .int .i64 (a.m.es.length : Int)), (81, .int .i64 (x2 : Int))]) (fun (x2 : Nat) => R) (fun (x2 : Nat) => F) (fun (x2 : Nat) => x2 ≤ a.m.es.length ∧ ∀ e ∈ a.m.es.take x2, e.2.length ≤ 100 ∧ e.1 ≤ 4294967296) (fun (x2 : Nat) => a.m.es.length - x2) 0 (⟨by simp, fun l hl => by simp at hl⟩) ?_
  rintro j ⟨hj, hs2⟩
  try dsimp only
  refine cj_seq fun K28 hK28 => cj_region ?_
  refine Pa (y_lss rfl rfl) ?_
  refine rj_nil (hK28 _ _ _ (cj_seq fun K29 hK29 => ?_))
  refine cj_cond rfl (fun hc82 => ?_) (fun hc82 => ?_)
  try simp only [dT, dF, nT, nF, tF, fT] at hc82
  refine cj_skip (hK29 _ _ _ (cj_seq fun K31 hK31 => cj_block (cj_seq fun K32 hK32 => ?_)))
  have hj2 : j < a.m.es.length := by (try simp at hc82); omega
  obtain ⟨e, he⟩ : ∃ x, a.m.es[j]? = some x := ⟨_, List.getElem?_eq_getElem hj2⟩
  obtain ⟨b3, o3, c3, cs3, he3, rfl, _, hcell3⟩ := hve.at he
  obtain ⟨rfl, rfl⟩ : ql = some ⟨b3, o3, none⟩ ∧ cl = c3 := by cases he3; exact ⟨rfl, rfl⟩
  refine cj_region ?_
  first | refine Pa (y_indexAddr Tryz.underlying32 Tryz.sizeOf60 rfl rfl om_) ?_ | refine Pa (y_index_slc Tryz.underlying32 Tryz.sizeOf60 rfl rfl fd_ om_) ?_
  refine Pa ((y_loads_ro m60 (vs := entC e) rfl rfl (fun j u hj => hcell3 j u hj))) ?_
  refine rj_alloc (wn0 rfl) rfl Tryz.zeroValue60 rfl (fun b9 => ?_)
  refine Sm (vs := entC e) m60 (entE.one (R := R) (x := e) rfl) ?_
  refine rj_nil (hK32 _ _ _ (cj_seq fun K33 hK33 => cj_region ?_))
  refine Pa (Ga Tryz.underlying60 Tryz.sizeOf9) ?_
  first | refine Pa (La o9) ?_ | refine Pa (Ls o9) ?_
  refine Pa (y_slen Tryz.underlying9 rfl) ?_
  refine Pa (y_gtr rfl rfl) ?_
  refine Pm ?_
  refine rj_part 89 rfl (fun hg89 => ?_) (fun hg89 => ?_)
  try simp only [dT, dF, nT, nF, tF, fT] at hg89
  refine Pk ?_
  refine Pk ?_
  refine Pk ?_
  refine Pa (y_pick_t rfl rfl) ?_
  refine rj_nil (hK33 _ _ _ ?_)
  refine cj_env (eL 14 rfl (eL 15 rfl (eL 16 rfl (eL 79 rfl (eL 80 rfl (eL 81 rfl (eL 93 rfl eN))))))) ?_
  refine cj_cond_t rfl (cj_seq fun K34 hK34 => cj_region ?_)
  refine Ps ?_
  refine rj_nil (hK34 _ _ _ (cj_ret (hret _ _ _ ?_)))
  refine Ea Tryz.results15 (.cons (rv_tmp rfl) .nil) [] le_ ?_
  first|(exact ⟨⟨true, rfl, fun _ => ⟨hlen, by rw [List.take_of_length_le (by (try simp at hc17); omega)] at hs; exact hs⟩⟩, rfl⟩)|exact ⟨⟨false, rfl, fun h => by cases h⟩, rfl⟩
  have h1 : e.2.length ≤ 100 := by (try simp at hg89); omega
  refine Pb (Ga Tryz.underlying60 Tryz.sizeOf31) ?_
  first | refine Pb (La o31) ?_ | refine Pb (Ls o31) ?_
  refine Pb (y_gtr rfl rfl) ?_
  refine Pa (y_pick_f rfl rfl) ?_
  refine rj_nil (hK33 _ _ _ ?_)
  refine cj_cond rfl (fun hc93 => ?_) (fun hc93 => ?_)
  try simp only [dT, dF, nT, nF, tF, fT] at hc93
  refine cj_seq fun K36 hK36 => cj_region ?_
  refine Ps ?_
  refine rj_nil (hK36 _ _ _ (cj_ret (hret _ _ _ ?_)))
  refine Ea Tryz.results15 (.cons (rv_tmp rfl) .nil) [] le_ ?_
  first|(exact ⟨⟨true, rfl, fun _ => ⟨hlen, by rw [List.take_of_length_le (by (try simp at hc17); omega)] at hs; exact hs⟩⟩, rfl⟩)|exact ⟨⟨false, rfl, fun h => by cases h⟩, rfl⟩
  have h2 : e.1 ≤ 4294967296 := by (try simp at hc93); omega
  refine cj_skip (hK31 _ _ _ (cj_region ?_))
  first | refine Pa (y_add64 rfl rfl om_) ?_ | refine Pa (y_add rfl rfl) ?_
  refine Pm ?_
  refine rj_nil ?_
  refine ej_on (q' := roundK _ _ _ _ _ _ _) rfl ?_
  refine ej_round (j + 1) (⟨by omega, small_succ9 hs2 he ⟨h1, h2⟩⟩) (by omega) (eC rfl (eC rfl (eC rfl (eC rfl (eC rfl (eC rfl eN)))))) rfl sb_
  try simp only [dT, dF, nT, nF, tF, fT] at hc82
  refine cj_exit (hK11 _ _ _ (cj_region ?_))
  first | refine Pa (y_add64 rfl rfl om_) ?_ | refine Pa (y_add rfl rfl) ?_
  refine Pm ?_
  refine rj_nil ?_
  refine ej_on (q' := roundK _ _ _ _ _ _ _) rfl ?_
  refine ej_round (i + 1) (⟨by omega, small_succ9 hs ha ⟨g1, g3, g4, ⟨g5, by rw [List.take_of_length_le (by omega)] at hs2; exact hs2⟩, g6, g7, g8, g9, g10⟩⟩) (by omega) (eC rfl (eC rfl (eC rfl eN))) rfl sb_
  have k0 : ¬ a.what = 0 := by simpa using hg25
  have g1 : a.what = 0 → 0 ≤ a.n ∧ a.n ≤ 50 := fun h => absurd h k0
  refine Pk ?_
  refine Pk ?_
  refine Pk ?_
  refine Pk ?_
  refine rj_skip (wn3 rfl rfl rfl rfl) rfl rfl ?_
  refine rj_skip (wn3 rfl rfl rfl rfl) rfl rfl ?_
  refine rj_skip (wn3 rfl rfl rfl rfl) rfl rfl ?_
  refine Pk ?_
  refine Pa (y_pick_f rfl rfl) ?_
  refine Pm ?_
  refine Pb (Ga Tryz.underlying54 Tryz.sizeOf9) ?_
  first | refine Pb (La o9) ?_ | refine Pb (Ls o9) ?_
  refine Pb (y_slen Tryz.underlying9 rfl) ?_
  refine Pb (y_gtr rfl rfl) ?_
  refine Pa (y_pick_f rfl rfl) ?_
  refine Pm ?_
  refine rj_part 41 rfl (fun hg41 => ?_) (fun hg41 => ?_)
  try simp only [dT, dF, nT, nF, tF, fT] at hg41
  refine Pk ?_
  refine Pk ?_
  refine Pk ?_
  refine Pk ?_
  refine Pa (y_pick_t rfl rfl) ?_
  refine Pm ?_
  refine Pk ?_
  refine Pk ?_
  refine Pk ?_
  refine Pk ?_
  refine Pa (y_pick_t rfl rfl) ?_
  refine Pm ?_
  refine Pk ?_
  refine Pk ?_
  refine Pk ?_
  refine Pa (y_pick_t rfl rfl) ?_
  refine Pm ?_
  refine Pk ?_
  refine Pk ?_
  refine Pk ?_
  refine Pa (y_pick_t rfl rfl) ?_
  refine Pm ?_
  refine Pk ?_
  refine Pk ?_
  refine Pk ?_
  refine Pa (y_pick_t rfl rfl) ?_
  refine Pm ?_
  refine Pk ?_
  refine Pk ?_
  refine Pk ?_
  refine Pa (y_pick_t rfl rfl) ?_
  refine Pm ?_
  refine Pk ?_
  refine Pk ?_
  refine Pk ?_
  refine Pa (y_pick_t rfl rfl) ?_
  refine rj_nil (hK15 _ _ _ ?_)
  refine cj_env (eL 7 rfl (eL 14 rfl (eL 15 rfl (eL 16 rfl (eL 77 rfl eN))))) ?_
  refine cj_cond_t rfl (cj_seq fun K37 hK37 => cj_region ?_)
  refine Ps ?_
  refine rj_nil (hK37 _ _ _ (cj_ret (hret _ _ _ ?_)))
  refine Ea Tryz.results15 (.cons (rv_tmp rfl) .nil) [] le_ ?_
  first|(exact ⟨⟨true, rfl, fun _ => ⟨hlen, by rw [List.take_of_length_le (by (try simp at hc17); omega)] at hs; exact hs⟩⟩, rfl⟩)|exact ⟨⟨false, rfl, fun h => by cases h⟩, rfl⟩
  have g3 : a.text.length ≤ 100 := by (try simp at hg41); omega
  refine Pb (Ga Tryz.underlying48 Tryz.sizeOf9) ?_
  first | refine Pb (La o9) ?_ | refine Pb (Ls o9) ?_
  refine Pb (y_slen Tryz.underlying9 rfl) ?_
  refine Pb (y_gtr rfl rfl) ?_
  refine Pa (y_pick_f rfl rfl) ?_
  refine Pm ?_
  refine rj_part 47 rfl (fun hg47 => ?_) (fun hg47 => ?_)
  try simp only [dT, dF, nT, nF, tF, fT] at hg47
  refine Pk ?_
  refine Pk ?_
  refine Pk ?_
  refine Pk ?_
  refine Pa (y_pick_t rfl rfl) ?_
  refine Pm ?_
  refine Pk ?_
  refine Pk ?_
  refine Pk ?_
  refine Pa (y_pick_t rfl rfl) ?_
  refine Pm ?_
  refine Pk ?_
  refine Pk ?_
  refine Pk ?_
  refine Pa (y_pick_t rfl rfl) ?_
  refine Pm ?_
  refine Pk ?_
  refine Pk ?_
  refine Pk ?_
  refine Pa (y_pick_t rfl rfl) ?_
  refine Pm ?_
  refine Pk ?_
  refine Pk ?_
  refine Pk ?_
  refine Pa (y_pick_t rfl rfl) ?_
  refine Pm ?_
  refine Pk ?_
  refine Pk ?_
  refine Pk ?_
  refine Pa (y_pick_t rfl rfl) ?_
  refine rj_nil (hK15 _ _ _ ?_)
  refine cj_env (eL 7 rfl (eL 14 rfl (eL 15 rfl (eL 16 rfl (eL 77 rfl eN))))) ?_
  refine cj_cond_t rfl (cj_seq fun K38 hK38 => cj_region ?_)
  refine Ps ?_
  refine rj_nil (hK38 _ _ _ (cj_ret (hret _ _ _ ?_)))
  refine Ea Tryz.results15 (.cons (rv_tmp rfl) .nil) [] le_ ?_
  first|(exact ⟨⟨true, rfl, fun _ => ⟨hlen, by rw [List.take_of_length_le (by (try simp at hc17); omega)] at hs; exact hs⟩⟩, rfl⟩)|exact ⟨⟨false, rfl, fun h => by cases h⟩, rfl⟩
  have g4 : a.m.state.length ≤ 100 := by (try simp at hg47); omega
  refine Pb (Ga Tryz.underlying48 Tryz.sizeOf32) ?_
  first | refine Pb (La o32) ?_ | refine Pb (Ls o32) ?_
  first | refine Pb (y_len_sl Tryz.underlying32 rfl) ?_ | refine Pb (y_len_slc Tryz.underlying32 rfl fd_) ?_
  refine Pb (y_gtr rfl rfl) ?_
  refine Pa (y_pick_f rfl rfl) ?_
  refine Pm ?_
  refine rj_part 53 rfl (fun hg53 => ?_) (fun hg53 => ?_)
  try simp only [dT, dF, nT, nF, tF, fT] at hg53
  refine Pk ?_
  refine Pk ?_
  refine Pk ?_
  refine Pa (y_pick_t rfl rfl) ?_
  refine Pm ?_
  refine Pk ?_
  refine Pk ?_
  refine Pk ?_
  refine Pa (y_pick_t rfl rfl) ?_
  refine Pm ?_
  refine Pk ?_
  refine Pk ?_
  refine Pk ?_
  refine Pa (y_pick_t rfl rfl) ?_
  refine Pm ?_
  refine Pk ?_
  refine Pk ?_
  refine Pk ?_
  refine Pa (y_pick_t rfl rfl) ?_
  refine Pm ?_
  refine Pk ?_
  refine Pk ?_
  refine Pk ?_
  refine Pa (y_pick_t rfl rfl) ?_
  refine rj_nil (hK15 _ _ _ ?_)
  refine cj_env (eL 7 rfl (eL 14 rfl (eL 15 rfl (eL 16 rfl (eL 77 rfl eN))))) ?_
  refine cj_cond_t rfl (cj_seq fun K39 hK39 => cj_region ?_)
  refine Ps ?_
  refine rj_nil (hK39 _ _ _ (cj_ret (hret _ _ _ ?_)))
  refine Ea Tryz.results15 (.cons (rv_tmp rfl) .nil) [] le_ ?_
  first|(exact ⟨⟨true, rfl, fun _ => ⟨hlen, by rw [List.take_of_length_le (by (try simp at hc17); omega)] at hs; exact hs⟩⟩, rfl⟩)|exact ⟨⟨false, rfl, fun h => by cases h⟩, rfl⟩
  have g5 : a.m.es.length ≤ 12 := by (try simp at hg53); omega
  refine Pb (Ga Tryz.underlying48 Tryz.sizeOf31) ?_
  first | refine Pb (La o31) ?_ | refine Pb (Ls o31) ?_
  refine Pb (y_gtr rfl rfl) ?_
  refine Pa (y_pick_f rfl rfl) ?_
  refine Pm ?_
  refine rj_part 58 rfl (fun hg58 => ?_) (fun hg58 => ?_)
  try simp only [dT, dF, nT, nF, tF, fT] at hg58
  refine Pk ?_
  refine Pk ?_
  refine Pk ?_
  refine Pa (y_pick_t rfl rfl) ?_
  refine Pm ?_
  refine Pk ?_
  refine Pk ?_
  refine Pk ?_
  refine Pa (y_pick_t rfl rfl) ?_
  refine Pm ?_
  refine Pk ?_
  refine Pk ?_
  refine Pk ?_
  refine Pa (y_pick_t rfl rfl) ?_
  refine Pm ?_
  refine Pk ?_
  refine Pk ?_
  refine Pk ?_
  refine Pa (y_pick_t rfl rfl) ?_
  refine rj_nil (hK15 _ _ _ ?_)
  refine cj_env (eL 7 rfl (eL 14 rfl (eL 15 rfl (eL 16 rfl (eL 77 rfl eN))))) ?_
  refine cj_cond_t rfl (cj_seq fun K40 hK40 => cj_region ?_)
  refine Ps ?_
  refine rj_nil (hK40 _ _ _ (cj_ret (hret _ _ _ ?_)))
  refine Ea Tryz.results15 (.cons (rv_tmp rfl) .nil) [] le_ ?_
  first|(exact ⟨⟨true, rfl, fun _ => ⟨hlen, by rw [List.take_of_length_le (by (try simp at hc17); omega)] at hs; exact hs⟩⟩, rfl⟩)|exact ⟨⟨false, rfl, fun h => by cases h⟩, rfl⟩
  have g6 : a.m.term ≤ 4294967296 := by (try simp at hg58); omega
  refine Pb (Ga Tryz.underlying48 Tryz.sizeOf31) ?_
  first | refine Pb (La o31) ?_ | refine Pb (Ls o31) ?_
  refine Pb (y_gtr rfl rfl) ?_
  refine Pa (y_pick_f rfl rfl) ?_
  refine Pm ?_
  refine rj_part 63 rfl (fun hg63 => ?_) (fun hg63 => ?_)
  try simp only [dT, dF, nT, nF, tF, fT] at hg63
  refine Pk ?_
  refine Pk ?_
  refine Pk ?_
  refine Pa (y_pick_t rfl rfl) ?_
  refine Pm ?_
  refine Pk ?_
  refine Pk ?_
  refine Pk ?_
  refine Pa (y_pick_t rfl rfl) ?_
  refine Pm ?_
  refine Pk ?_
  refine Pk ?_
  refine Pk ?_
  refine Pa (y_pick_t rfl rfl) ?_
  refine rj_nil (hK15 _ _ _ ?_)
  refine cj_env (eL 7 rfl (eL 14 rfl (eL 15 rfl (eL 16 rfl (eL 77 rfl eN))))) ?_
  refine cj_cond_t rfl (cj_seq fun K41 hK41 => cj_region ?_)
  refine Ps ?_
  refine rj_nil (hK41 _ _ _ (cj_ret (hret _ _ _ ?_)))
  refine Ea Tryz.results15 (.cons (rv_tmp rfl) .nil) [] le_ ?_
  first|(exact ⟨⟨true, rfl, fun _ => ⟨hlen, by rw [List.take_of_length_le (by (try simp at hc17); omega)] at hs; exact hs⟩⟩, rfl⟩)|exact ⟨⟨false, rfl, fun h => by cases h⟩, rfl⟩
  have g7 : a.m.index ≤ 4294967296 := by (try simp at hg63); omega
  refine Pb (Ga Tryz.underlying48 Tryz.sizeOf31) ?_
  first | refine Pb (La o31) ?_ | refine Pb (Ls o31) ?_
  refine Pb (y_gtr rfl rfl) ?_
  refine Pa (y_pick_f rfl rfl) ?_
  refine Pm ?_
  refine rj_part 68 rfl (fun hg68 => ?_) (fun hg68 => ?_)
  try simp only [dT, dF, nT, nF, tF, fT] at hg68
  refine Pk ?_
  refine Pk ?_
  refine Pk ?_
  refine Pa (y_pick_t rfl rfl) ?_
  refine Pm ?_
  refine Pk ?_
  refine Pk ?_
  refine Pk ?_
  refine Pa (y_pick_t rfl rfl) ?_
  refine rj_nil (hK15 _ _ _ (cj_cond_t rfl (cj_seq fun K42 hK42 => cj_region ?_)))
  refine Ps ?_
  refine rj_nil (hK42 _ _ _ (cj_ret (hret _ _ _ ?_)))
  refine Ea Tryz.results15 (.cons (rv_tmp rfl) .nil) [] le_ ?_
  first|(exact ⟨⟨true, rfl, fun _ => ⟨hlen, by rw [List.take_of_length_le (by (try simp at hc17); omega)] at hs; exact hs⟩⟩, rfl⟩)|exact ⟨⟨false, rfl, fun h => by cases h⟩, rfl⟩
  have g8 : a.m.logTerm ≤ 4294967296 := by (try simp at hg68); omega
  refine Pb (Ga Tryz.underlying48 Tryz.sizeOf31) ?_
  first | refine Pb (La o31) ?_ | refine Pb (Ls o31) ?_
  refine Pb (y_gtr rfl rfl) ?_
  refine Pa (y_pick_f rfl rfl) ?_
  refine Pm ?_
  refine rj_part 73 rfl (fun hg73 => ?_) (fun hg73 => ?_)
  try simp only [dT, dF, nT, nF, tF, fT] at hg73
  refine Pk ?_
  refine Pk ?_
  refine Pk ?_
  refine Pa (y_pick_t rfl rfl) ?_
  refine rj_nil (hK15 _ _ _ ?_)
  refine cj_env (eL 7 rfl (eL 14 rfl (eL 15 rfl (eL 16 rfl (eL 77 rfl eN))))) ?_
  refine cj_cond_t rfl (cj_seq fun K43 hK43 => cj_region ?_)
  refine Ps ?_
  refine rj_nil (hK43 _ _ _ (cj_ret (hret _ _ _ ?_)))
  refine Ea Tryz.results15 (.cons (rv_tmp rfl) .nil) [] le_ ?_
  first|(exact ⟨⟨true, rfl, fun _ => ⟨hlen, by rw [List.take_of_length_le (by (try simp at hc17); omega)] at hs; exact hs⟩⟩, rfl⟩)|exact ⟨⟨false, rfl, fun h => by cases h⟩, rfl⟩
  have g9 : a.m.commit ≤ 4294967296 := by (try simp at hg73); omega
  refine Pb (Ga Tryz.underlying54 Tryz.sizeOf31) ?_
  first | refine Pb (La o31) ?_ | refine Pb (Ls o31) ?_
  refine Pb (y_gtr rfl rfl) ?_
  refine Pa (y_pick_f rfl rfl) ?_
  refine rj_nil (hK15 _ _ _ ?_)
  refine cj_cond rfl (fun hc77 => ?_) (fun hc77 => ?_)
  try simp only [dT, dF, nT, nF, tF, fT] at hc77
  refine cj_seq fun K45 hK45 => cj_region ?_
  refine Ps ?_
  refine rj_nil (hK45 _ _ _ (cj_ret (hret _ _ _ ?_)))
  refine Ea Tryz.results15 (.cons (rv_tmp rfl) .nil) [] le_ ?_
  first|(exact ⟨⟨true, rfl, fun _ => ⟨hlen, by rw [List.take_of_length_le (by (try simp at hc17); omega)] at hs; exact hs⟩⟩, rfl⟩)|exact ⟨⟨false, rfl, fun h => by cases h⟩, rfl⟩
  have g10 : a.index ≤ 4294967296 := by (try simp at hc77); omega
  refine cj_skip (hK14 _ _ _ (cj_seq fun K46 hK46 => cj_region ?_))
  refine Pa (Ga Tryz.underlying48 Tryz.sizeOf32) ?_
  first | refine Pa (La o32) ?_ | refine Pa (Ls o32) ?_
  first | refine Pa (y_len_sl Tryz.underlying32 rfl) ?_ | refine Pa (y_len_slc Tryz.underlying32 rfl fd_) ?_
  refine Pm ?_
  refine rj_nil (hK46 _ _ _ (cj_block ?_))
  refine cj_env (E' := (fun (x2 : Nat) => [(14, .slice (some ⟨be, oe, none⟩) acts.length cap), (15, .int .i64 (acts.length : Int)), (16, .int .i64 (i : Int)), (79, .slice ql a.m.es.length cl), (80, .int .i64 (a.m.es.length : Int)), (81, .int .i64 (x2 : Int))]) 0) (eC rfl (eC rfl (eC rfl (eC rfl (eC rfl (eC rfl eN)))))) ?_
  refine cj_sub (M := (fun (x2 : Nat) => F) 0) sb_ ?_
  refine cj_loop (fun (x2 : Nat) => [(14, .slice (some ⟨be, oe, none⟩) acts.length cap), (15, .int .i64 (acts.length : Int)), (16, .int .i64 (i : Int)), (79, .slice ql a.m.es.length cl), (80, .int .i64 (a.m.es.length : Int)), (81, .int .i64 (x2 : Int))]) (fun (x2 : Nat) => R) (fun (x2 : Nat) => F) (fun (x2 : Nat) => x2 ≤ a.m.es.length ∧ ∀ e ∈ a.m.es.take x2, e.2.length ≤ 100 ∧ e.1 ≤ 4294967296) (fun (x2 : Nat) => a.m.es.length - x2) 0 (⟨by simp, fun l hl => by simp at hl⟩) ?_
  rintro j ⟨hj, hs2⟩
  try dsimp only
  refine cj_seq fun K47 hK47 => cj_region ?_
  refine Pa (y_lss rfl rfl) ?_
  refine rj_nil (hK47 _ _ _ (cj_seq fun K48 hK48 => ?_))
  refine cj_cond rfl (fun hc82 => ?_) (fun hc82 => ?_)
  try simp only [dT, dF, nT, nF, tF, fT] at hc82
  refine cj_skip (hK48 _ _ _ (cj_seq fun K50 hK50 => cj_block (cj_seq fun K51 hK51 => ?_)))
  have hj2 : j < a.m.es.length := by (try simp at hc82); omega
  obtain ⟨e, he⟩ : ∃ x, a.m.es[j]? = some x := ⟨_, List.getElem?_eq_getElem hj2⟩
  obtain ⟨b3, o3, c3, cs3, he3, rfl, _, hcell3⟩ := hve.at he
  obtain ⟨rfl, rfl⟩ : ql = some ⟨b3, o3, none⟩ ∧ cl = c3 := by cases he3; exact ⟨rfl, rfl⟩
  refine cj_region ?_
  first | refine Pa (y_indexAddr Tryz.underlying32 Tryz.sizeOf60 rfl rfl om_) ?_ | refine Pa (y_index_slc Tryz.underlying32 Tryz.sizeOf60 rfl rfl fd_ om_) ?_
  refine Pa ((y_loads_ro m60 (vs := entC e) rfl rfl (fun j u hj => hcell3 j u hj))) ?_
  refine rj_alloc (wn0 rfl) rfl Tryz.zeroValue60 rfl (fun b9 => ?_)
  refine Sm (vs := entC e) m60 (entE.one (R := R) (x := e) rfl) ?_
  refine rj_nil (hK51 _ _ _ (cj_seq fun K52 hK52 => cj_region ?_))
  refine Pa (Ga Tryz.underlying60 Tryz.sizeOf9) ?_
  first | refine Pa (La o9) ?_ | refine Pa (Ls o9) ?_
  refine Pa (y_slen Tryz.underlying9 rfl) ?_
  refine Pa (y_gtr rfl rfl) ?_
  refine Pm ?_
  refine rj_part 89 rfl (fun hg89 => ?_) (fun hg89 => ?_)
  try simp only [dT, dF, nT, nF, tF, fT] at hg89
  refine Pk ?_
  refine Pk ?_
  refine Pk ?_
  refine Pa (y_pick_t rfl rfl) ?_
  refine rj_nil (hK52 _ _ _ ?_)
  refine cj_env (eL 14 rfl (eL 15 rfl (eL 16 rfl (eL 79 rfl (eL 80 rfl (eL 81 rfl (eL 93 rfl eN))))))) ?_
  refine cj_cond_t rfl (cj_seq fun K53 hK53 => cj_region ?_)
  refine Ps ?_
  refine rj_nil (hK53 _ _ _ (cj_ret (hret _ _ _ ?_)))
  refine Ea Tryz.results15 (.cons (rv_tmp rfl) .nil) [] le_ ?_
  first|(exact ⟨⟨true, rfl, fun _ => ⟨hlen, by rw [List.take_of_length_le (by (try simp at hc17); omega)] at hs; exact hs⟩⟩, rfl⟩)|exact ⟨⟨false, rfl, fun h => by cases h⟩, rfl⟩
  have h1 : e.2.length ≤ 100 := by (try simp at hg89); omega
  refine Pb (Ga Tryz.underlying60 Tryz.sizeOf31) ?_
  first | refine Pb (La o31) ?_ | refine Pb (Ls o31) ?_
  refine Pb (y_gtr rfl rfl) ?_
  refine Pa (y_pick_f rfl rfl) ?_
  refine rj_nil (hK52 _ _ _ ?_)
  refine cj_cond rfl (fun hc93 => ?_) (fun hc93 => ?_)
  try simp only [dT, dF, nT, nF, tF, fT] at hc93
  refine cj_seq fun K55 hK55 => cj_region ?_
  refine Ps ?_
  refine rj_nil (hK55 _ _ _ (cj_ret (hret _ _ _ ?_)))
  refine Ea Tryz.results15 (.cons (rv_tmp rfl) .nil) [] le_ ?_
  first|(exact ⟨⟨true, rfl, fun _ => ⟨hlen, by rw [List.take_of_length_le (by (try simp at hc17); omega)] at hs; exact hs⟩⟩, rfl⟩)|exact ⟨⟨false, rfl, fun h => by cases h⟩, rfl⟩
  have h2 : e.1 ≤ 4294967296 := by (try simp at hc93); omega
  refine cj_skip (hK50 _ _ _ (cj_region ?_))
  first | refine Pa (y_add64 rfl rfl om_) ?_ | refine Pa (y_add rfl rfl) ?_
  refine Pm ?_
  refine rj_nil ?_
  refine ej_on (q' := roundK _ _ _ _ _ _ _) rfl ?_
  refine ej_round (j + 1) (⟨by omega, small_succ9 hs2 he ⟨h1, h2⟩⟩) (by omega) (eC rfl (eC rfl (eC rfl (eC rfl (eC rfl (eC rfl eN)))))) rfl sb_
  try simp only [dT, dF, nT, nF, tF, fT] at hc82
  refine cj_exit (hK11 _ _ _ (cj_region ?_))
  first | refine Pa (y_add64 rfl rfl om_) ?_ | refine Pa (y_add rfl rfl) ?_
  refine Pm ?_
  refine rj_nil ?_
  refine ej_on (q' := roundK _ _ _ _ _ _ _) rfl ?_
  refine ej_round (i + 1) (⟨by omega, small_succ9 hs ha ⟨g1, g3, g4, ⟨g5, by rw [List.take_of_length_le (by omega)] at hs2; exact hs2⟩, g6, g7, g8, g9, g10⟩⟩) (by omega) (eC rfl (eC rfl (eC rfl eN))) rfl sb_
  try simp only [dT, dF, nT, nF, tF, fT] at hc17
  refine cj_exit (hK6 _ _ _ ?_)
  refine cj_env eN ?_
  refine cj_seq fun K56 hK56 => cj_region ?_
  refine Ps ?_
  refine rj_nil (hK56 _ _ _ (cj_ret (hret _ _ _ ?_)))
  refine Ea Tryz.results15 (.cons (rv_tmp rfl) .nil) [] le_ ?_
  first|(exact ⟨⟨true, rfl, fun _ => ⟨hlen, by rw [List.take_of_length_le (by (try simp at hc17); omega)] at hs; exact hs⟩⟩, rfl⟩)|exact ⟨⟨false, rfl, fun h => by cases h⟩, rfl⟩
def nearM (a : Ac) (x : ND) : Msg := if a.near = true then (if x.g.last > 3 then { a.m with term := a.m.term + x.g.term, index := a.m.index + (x.g.last - 3), commit := a.m.commit + (x.g.last - 3) } else { a.m with term := a.m.term + x.g.term }) else a.m
theorem near_q {R : Hp} (a : Ac) (ve : Value) (v : RW) (x : ND) (hx : NIn 0 x) (hv : RNOk R v x) (hs : a.sm) (hb : a.Bd) (hve : FrX entE R a.m.es ve) : QTri Tryz.prog 46 [.agg ⟨acC a ve⟩, .agg ⟨rnC v x⟩] R [] (.agg ⟨msgC (nearM a x) ve⟩) := by
  have hg := hx.g (by omega)
  have hlb := LG.last_b hg
  have hva := hv.va
  have hveo := hve.one
  have hob := rnC_one hv
  have hterm := hx.term
  have h1 := hs.term
  have h2 := hs.mindex
  have h3 := hs.commit
  have h4 := hb.m.term
  have h5 := hb.m.index
  have h6 := hb.m.commit
  unfold u64B at h4 h5 h6
  refine Tri.q2 ?_
  refine tri_of Tryz.func46 rfl Tryz.ntmps46 rfl (fun σ F Q hret hend hpan => ?_)
  try simp only [cA, nA]
  refine cj_seq fun K1 hK1 => cj_region ?_
  refine rj_box (wn0 rfl) rfl rfl rfl (fun b2 => ?_)
  refine rj_box (wn0 rfl) rfl rfl rfl (fun b3 => ?_)
  refine rj_alloc (wn0 rfl) rfl Tryz.zeroValue48 rfl (fun b4 => ?_)
  refine rj_nil (hK1 _ _ _ (cj_seq fun K2 hK2 => cj_region ?_))
  refine Pa (Ga Tryz.underlying54 Tryz.sizeOf48) ?_
  refine Pa ((Lb (vs := msgC a.m ve) m48)) ?_
  refine rj_alloc (wn0 rfl) rfl Tryz.zeroValue48 rfl (fun b5 => ?_)
  refine Sm (vs := msgC a.m ve) m48 (msgC_one hveo) ?_
  refine rj_nil (hK2 _ _ _ (cj_seq fun K3 hK3 => cj_seq fun K4 hK4 => cj_region ?_))
  refine Pa (Ga Tryz.underlying54 Tryz.sizeOf4) ?_
  first | refine Pa (La o4) ?_ | refine Pa (Ls o4) ?_
  refine rj_nil (hK4 _ _ _ ?_)
  refine cj_cond rfl (fun hc10 => ?_) (fun hc10 => ?_)
  have f1 : a.near = true := hc10
  refine cj_seq fun K6 hK6 => cj_region ?_
  refine Pa (Ga Tryz.underlying48 Tryz.sizeOf31) ?_
  first | refine Pa (La o31) ?_ | refine Pa (Ls o31) ?_
  refine Pa (Ga Tryz.underlying37 Tryz.sizeOf34) ?_
  refine Pa (Ga Tryz.underlying34 Tryz.sizeOf31) ?_
  first | refine Pa (La o31) ?_ | refine Pa (Ls o31) ?_
  refine Pa ((y_addu rfl rfl (by omega))) ?_
  refine Pa (Ga Tryz.underlying48 Tryz.sizeOf31) ?_
  refine Sa o31 ?_
  refine rj_nil (hK6 _ _ _ (cj_seq fun K7 hK7 => cj_region ?_))
  refine Pa (Ga Tryz.underlying37 Tryz.sizeOf34) ?_
  refine Pa ((Lb (vs := rlC v.va x.g) m34)) ?_
  refine Pa (Ca Tryz.call75 (rlLast_q v.va x.g hg hva)) ?_
  refine Ps ?_
  refine rj_nil (hK7 _ _ _ (cj_seq fun K8 hK8 => cj_region ?_))
  refine Pm ?_
  refine Pa (y_gtr rfl rfl) ?_
  refine rj_nil (hK8 _ _ _ ?_)
  refine cj_cond rfl (fun hc22 => ?_) (fun hc22 => ?_)
  have f2 : x.g.last > 3 := by simpa using hc22
  have hN : nearM a x = { a.m with term := a.m.term + x.g.term, index := a.m.index + (x.g.last - 3), commit := a.m.commit + (x.g.last - 3) } := by unfold nearM; rw [if_pos f1, if_pos f2]
  refine cj_seq fun K10 hK10 => cj_region ?_
  refine Pa (Ga Tryz.underlying48 Tryz.sizeOf31) ?_
  first | refine Pa (La o31) ?_ | refine Pa (Ls o31) ?_
  refine Pm ?_
  refine Pa ((y_subu rfl rfl (by omega))) ?_
  refine Pa ((y_addu rfl rfl (by omega))) ?_
  refine Pa (Ga Tryz.underlying48 Tryz.sizeOf31) ?_
  refine Sa o31 ?_
  refine rj_nil (hK10 _ _ _ ?_)
  refine cj_env (eL 4 rfl (eL 5 rfl (eL 6 rfl eN))) ?_
  refine cj_region ?_
  refine Pa (Ga Tryz.underlying48 Tryz.sizeOf31) ?_
  first | refine Pa (La o31) ?_ | refine Pa (Ls o31) ?_
  refine Pm ?_
  refine Pa ((y_subu rfl rfl (by omega))) ?_
  refine Pa ((y_addu rfl rfl (by omega))) ?_
  refine Pa (Ga Tryz.underlying48 Tryz.sizeOf31) ?_
  refine Sa o31 ?_
  refine rj_nil (hK3 _ _ _ (cj_seq fun K11 hK11 => ?_))
  refine cj_turnA (A := blk b5 _ 48) (B := blk b5 (msgC (nearM a x) ve) 48) fd_ (fun h hh => by rw [hN]; exact hh) ?_
  refine cj_region ?_
  refine Pa ((Lm (vs := msgC (nearM a x) ve) m48)) ?_
  refine Sm (vs := msgC (nearM a x) ve) m48 (msgC_one hveo) ?_
  refine rj_nil (hK11 _ _ _ (cj_ret (hret _ _ _ ?_)))
  refine Ea Tryz.results46 (.cons (rv_cells m48 rfl fd_ rfl rfl) .nil) [] le_ ?_
  exact ⟨rfl, rfl⟩
  have f2 : ¬ x.g.last > 3 := by simpa using hc22
  have hN : nearM a x = { a.m with term := a.m.term + x.g.term } := by unfold nearM; rw [if_pos f1, if_neg f2]
  refine cj_skip (hK3 _ _ _ (cj_seq fun K12 hK12 => ?_))
  refine cj_turnA (A := blk b5 _ 48) (B := blk b5 (msgC (nearM a x) ve) 48) fd_ (fun h hh => by rw [hN]; exact hh) ?_
  refine cj_region ?_
  refine Pa ((Lm (vs := msgC (nearM a x) ve) m48)) ?_
  refine Sm (vs := msgC (nearM a x) ve) m48 (msgC_one hveo) ?_
  refine rj_nil (hK12 _ _ _ (cj_ret (hret _ _ _ ?_)))
  refine Ea Tryz.results46 (.cons (rv_cells m48 rfl fd_ rfl rfl) .nil) [] le_ ?_
  exact ⟨rfl, rfl⟩
  have f1 : ¬ a.near = true := by simpa using hc10
  have hN : nearM a x = a.m := by unfold nearM; rw [if_neg f1]
  refine cj_skip (hK3 _ _ _ (cj_seq fun K13 hK13 => ?_))
  refine cj_turnA (A := blk b5 _ 48) (B := blk b5 (msgC (nearM a x) ve) 48) fd_ (fun h hh => by rw [hN]; exact hh) ?_
  refine cj_region ?_
  refine Pa ((Lm (vs := msgC (nearM a x) ve) m48)) ?_
  refine Sm (vs := msgC (nearM a x) ve) m48 (msgC_one hveo) ?_
  refine rj_nil (hK13 _ _ _ (cj_ret (hret _ _ _ ?_)))
  refine Ea Tryz.results46 (.cons (rv_cells m48 rfl fd_ rfl rfl) .nil) [] le_ ?_
  exact ⟨rfl, rfl⟩
theorem nearM_in {T I : Int} {A : Nat} {a : Ac} {x : ND} (hx : LIn T I A x) (hs : a.sm) (hb : a.Bd) : MLn (T + 4294967296) (I + 4294967296) (nearM a x) ∧ (nearM a x).es = a.m.es ∧ (nearM a x).commit ≤ I + 4294967296 := by
  have h1 := hs.term
  have h2 := hs.mindex
  have h3 := hs.commit
  have h4 := hb.m.term
  have h5 := hb.m.index
  have h6 := hb.m.commit
  have h7 := hs.logTerm
  have h8 := hb.m.logTerm
  have ht := hx.term
  have hb0 := hx.base
  have hc := hx.commit
  have hl := hx.last
  have hst := hs.state
  have hes := hs.es
  have hbe := hb.m.es
  unfold u64B at h4 h5 h6 h8
  have he : ∀ e ∈ a.m.es, (0 ≤ e.1 ∧ e.1 ≤ T + 4294967296) ∧ e.2.length ≤ 100 := fun e he => by
    have q1 := hes.2 e he
    have q2 := (hbe e he).1
    unfold u64B at q2
    omega
  unfold nearM
  split
  · split
    · exact ⟨⟨by dsimp only; omega, by dsimp only; omega, by dsimp only; omega, by dsimp only; omega, ⟨by dsimp only; omega, he⟩, by dsimp only; omega⟩, rfl, by dsimp only; omega⟩
    · exact ⟨⟨by dsimp only; omega, by dsimp only; omega, by dsimp only; omega, by dsimp only; omega, ⟨by dsimp only; omega, he⟩, by dsimp only; omega⟩, rfl, by dsimp only; omega⟩
  · exact ⟨⟨by omega, by omega, by omega, by omega, ⟨by omega, he⟩, by omega⟩, rfl, by omega⟩
theorem same9_t {R : Hp} (b : NB) (v : NV) (w : RW) (x : ND) (hx : NIn 0 x) (hv : NOk R v x) (hw : RNOk R w x) : Tri Tryz.prog 29 [.pointer (some ⟨b.x, 0, none⟩), .agg ⟨rnC w x⟩] R [ndB b v x, lgN b v x] (fun r R' L' => r = .bool true ∧ L' = [ndB b v x, lgN b v x]) := by
  have hg := hx.g (by omega)
  have hva := hv.va
  have hwva := hw.va
  refine tri_of Tryz.func29 rfl Tryz.ntmps29 rfl (fun σ F Q hret hend hpan => ?_)
  try simp only [cA, nA]
  refine cj_seq fun K1 hK1 => cj_region ?_
  refine rj_box (wn0 rfl) rfl rfl rfl (fun b3 => ?_)
  refine Ps ?_
  refine rj_nil (hK1 _ _ _ (cj_seq fun K2 hK2 => ?_))
  refine cj_mixg (L := [blk b3 (rnC w x) 37, ndB b v x]) [0, 1, 2, 3, 4, 5, 6, 7, 8, 9, 10, 11, 12, 13, 14, 15, 16, 17, 18, 19, 20, 21, 22, 23] [] [24, 25, 26] _ sb_ (by kernel_rfl) (by kernel_rfl) (by kernel_rfl) rfl ?_
  refine Wa rfl (fun R1 hR1 G => (y_move rfl)) ?_
  refine Wa rfl (fun R1 hR1 G => (Ca Tryz.call10 (ndRole_q b v x))) ?_
  refine Wa rfl (fun R1 hR1 G => (Ga Tryz.underlying37 Tryz.sizeOf3)) ?_
  first | refine Wa rfl (fun R1 hR1 G => (La o3)) ?_ | refine Wa rfl (fun R1 hR1 G => (Ls o3)) ?_
  refine Wa rfl (fun R1 hR1 G => (Yld.to (u := .bool true) (y_eql rfl rfl) (by simp))) ?_
  refine Wa rfl (fun R1 hR1 G => (y_move rfl)) ?_
  refine Wb rfl (fun R1 hR1 G => (y_move rfl)) ?_
  refine Wb rfl (fun R1 hR1 G => (Ca Tryz.call30 (ndLeader_q b v x))) ?_
  refine Wb rfl (fun R1 hR1 G => (Ga Tryz.underlying37 Tryz.sizeOf3)) ?_
  first | refine Wb rfl (fun R1 hR1 G => (La o3)) ?_ | refine Wb rfl (fun R1 hR1 G => (Ls o3)) ?_
  refine Wb rfl (fun R1 hR1 G => (Yld.to (u := .bool true) (y_eql rfl rfl) (by simp))) ?_
  refine Wa rfl (fun R1 hR1 G => (y_pick_t rfl rfl)) ?_
  refine Wa rfl (fun R1 hR1 G => (y_move rfl)) ?_
  refine Wb rfl (fun R1 hR1 G => (y_move rfl)) ?_
  refine Wb rfl (fun R1 hR1 G => (Ca Tryz.call17 (ndCommit_q b v x))) ?_
  refine Wb rfl (fun R1 hR1 G => (Ga Tryz.underlying37 Tryz.sizeOf31)) ?_
  first | refine Wb rfl (fun R1 hR1 G => (La o31)) ?_ | refine Wb rfl (fun R1 hR1 G => (Ls o31)) ?_
  refine Wb rfl (fun R1 hR1 G => (Yld.to (u := .bool true) (y_eql rfl rfl) (by simp))) ?_
  refine Wa rfl (fun R1 hR1 G => (y_pick_t rfl rfl)) ?_
  refine Wa rfl (fun R1 hR1 G => (y_move rfl)) ?_
  refine Wb rfl (fun R1 hR1 G => (y_move rfl)) ?_
  refine Wb rfl (fun R1 hR1 G => (Ca Tryz.call12 (ndLog_q b v x))) ?_
  refine Wb rfl (fun R1 hR1 G => (Ga Tryz.underlying37 Tryz.sizeOf34)) ?_
  refine Wb rfl (fun R1 hR1 G => (Lb (vs := rlC w.va x.g) m34)) ?_
  refine fj_nil ?_
  refine xj_nil ?_
  try simp only [cA, nA, List.append_nil]
  refine rj_call (wn1 rfl rfl rfl rfl) rfl Tryz.call60 rfl (holds_q b.l (some ⟨b.d, 0, none⟩) v.va w.va x.g hg hva hwva) sp_ (fun _ _ _ _ h => h.elim) ?_
  rintro r R4 L' hR4 ⟨_, rfl, rfl⟩
  try simp only [cA, nA]
  refine Pa (y_pick_t rfl rfl) ?_
  refine Ps ?_
  refine rj_nil (hK2 _ _ _ ?_)
  refine cj_env (eL 4 rfl eN) ?_
  refine cj_ret (hret _ _ _ ?_)
  apply ej_ret Tryz.results29 (.cons (rv_tmp rfl) .nil) _ [ndB b v x, lgN b v x] hR4 rfl
  case hp => exact ⟨rfl, rfl⟩
  case hS => exact sb_
end V
end Go.Proofs.YtjdbigplednihaaGreat
set_option linter.unusedSimpArgs false
set_option linter.unusedVariables false
set_option maxRecDepth 100000
namespace Go.Proofs.YtjdbigplednihaaGreat
open Go.RowKit
namespace V
set_option maxHeartbeats 4000000
theorem RNOk.q {R : Hp} {w : RW} {y : ND} (h : RNOk R w y) : RNOk R w y.q := h.to ⟨rfl, rfl, rfl, rfl, rfl⟩
theorem LT.q {T I : Int} {A : Nat} {x y : ND} (h : LT T I A x y) : LT T I A x y.q := h.sent []
theorem LT.next {T I T' I' : Int} {A A' : Nat} {x y z : ND} (h : LT T I A x y) (k : LT T' I' A' y z) : LT T' I' A' x z := h.trans k
theorem compR_P {x : ND} {i : Int} {s : Bs} {T I : Int} {A : Nat} (hx : LIn T I A x) : (if i ≤ x.commit then (({ x with g := (x.g.compR i s).1 } : ND), (x.g.compR i s).2) else (x, 1)) = ((x.compactP i s).2, (x.compactP i s).1) := by
  unfold ND.compactP LG.compR
  by_cases h1 : i ≤ x.commit
  · have e : ¬ i > x.commit := by omega
    simp only [if_pos h1, if_neg e]
    by_cases h2 : i < x.g.base ∨ i > x.g.last
    · simp only [if_pos h2]
    · simp only [if_neg h2]
  · have e : i > x.commit := by omega
    simp only [if_neg h1, if_pos e]
theorem others_le (x : ND) : x.others.length ≤ x.n := by
  unfold ND.others
  have := List.length_filter_le (fun i => i != x.id) (List.range x.n)
  simpa using this
theorem feedAll_len {x : ND} (h : x.out = []) : x.feedAll.out.length ≤ x.n := by
  rw [feedAll_out h]; have := others_le x; simpa using this
theorem win_len {x : ND} (h : x.out = []) : x.winP.out.length ≤ x.n := by
  have h1 := count_out { x.wins with g := x.wins.g.play (.add x.wins.g.last [(x.wins.g.term, [])]) }
  have h2 := feedAll_len (x := ND.count { x.wins with g := x.wins.g.play (.add x.wins.g.last [(x.wins.g.term, [])]) }) (by rw [h1.1]; exact h)
  rw [h1.2.2.2.2.1] at h2
  exact h2
theorem stand_len {x : ND} (h : x.out = []) : x.standP.out.length ≤ x.n := by
  unfold ND.standP
  split
  · exact win_len (x := ND.stands { x with g := { x.g with term := x.g.term + 1, vote := x.id } }) h
  · rw [askAll_out (x := ND.stands { x with g := { x.g with term := x.g.term + 1, vote := x.id } }) h]
    rw [List.length_map, List.length_map]
    exact others_le (ND.stands { x with g := { x.g with term := x.g.term + 1, vote := x.id } })
theorem tick_len {x : ND} (h : x.out = []) : x.tickP.out.length ≤ x.n := by
  unfold ND.tickP
  split
  · split
    · exact feedAll_len (x := { x with patience := 0 }) h
    · show x.out.length ≤ _; rw [h]; exact Nat.zero_le _
  · split
    · exact stand_len (x := { x with patience := x.patience + 1 }) h
    · show x.out.length ≤ _; rw [h]; exact Nat.zero_le _
def DoP (bp : Nat) (b : NB) (n : Nat) (T I : Int) (A : Nat) (x : ND) (r : Value) (R' : Hp) (L' : List Asn) : Prop :=
  ∃ vl y v' w' D', r = tupOf [vl, .bool true] ∧ vl.oneCell' = true ∧ LT T I A x y ∧ y.out = [] ∧ NOk R' v' y ∧ RNOk R' w' y ∧ LD n y.g D' ∧ L' = lnB bp b.d b.x w' y :: ndI b v' y D'
theorem do_t {R : Hp} (bp : Nat) (b : NB) (v : NV) (w : RW) (x : ND) (D : DK) (n : Nat) (a : Ac) (ve : Value) {T I : Int} {A : Nat} (hx : LIn T I A x) (hB : BB (T + 4294967400) (I + 4294967400) (A + 100)) (ho : x.out = []) (hv : NOk R v x) (hw : RNOk R w x) (hl : LD n x.g D) (hn : 17000000 ≤ n ∧ n ≤ 500000000) (hs : a.sm) (hb : a.Bd) (hve : FrX entE R a.m.es ve) :
    Tri Tryz.prog 16 [.pointer (some ⟨bp, 0, none⟩), .agg ⟨acC a ve⟩] R (lnB bp b.d b.x w x :: ndI b v x D) (DoP bp b (n + 300000) (T + 4294967400) (I + 4294967400) (A + 100) x) := by
  have hB0 : BB T I A := LIn.bb hB (by omega) (by omega) (by omega)
  have hBk : ∀ k : Nat, k ≤ 50 → BB (T + k) (I + k) (A + k) := fun k hk => LIn.bb hB (by omega) (by omega) (by omega)
  have hBk1 : BB T (I + 1) (A + 1) := LIn.bb hB (by omega) (by omega) (by omega)
  have hBm : BB (T + 4294967296) (I + 4294967296 + 20) (A + 20) := LIn.bb hB (by omega) (by omega) (by omega)
  have hx0 := hx.nin0 hB0 ho
  have hveo := hve.one
  have hub := hb.index
  have hio := hs.index
  have htx := hs.text
  have hwo := rnC_one hw
  have hxg := hx0.g (by omega)
  obtain ⟨hnm, hne, hnc⟩ := nearM_in hx hs hb
  have hBu := hB
  unfold BB at hBu
  unfold lnB lnC
  refine tri_of Tryz.func16 rfl Tryz.ntmps16 rfl (fun σ F Q hret hend hpan => ?_)
  try simp only [cA, nA]
  refine cj_seq fun K1 hK1 => cj_region ?_
  refine rj_box (wn0 rfl) rfl rfl rfl (fun b3 => ?_)
  refine Ps ?_
  refine Ps ?_
  refine rj_nil (hK1 _ _ _ (cj_seq fun K2 hK2 => cj_region ?_))
  refine Ps ?_
  refine Ps ?_
  refine rj_nil (hK2 _ _ _ (cj_seq fun K3 hK3 => cj_region ?_))
  refine Ps ?_
  refine rj_nil (hK3 _ _ _ (cj_seq fun K4 hK4 => ?_))
  have hJ27 : ∀ (x27 : (Value × Value × List Msg) × (ND × NV × RW × DK) × Hp), LT (T + 4294967400) (I + 4294967400) (A + 100) x x27.2.1.1 ∧ x27.2.1.1.out = [] ∧ NOk x27.2.2 x27.2.1.2.1 x27.2.1.1 ∧ RNOk x27.2.2 x27.2.1.2.2.1 x27.2.1.1 ∧ LD (n + 300000) x27.2.1.1.g x27.2.1.2.2.2 ∧ R.le x27.2.2 ∧ FrX msgE x27.2.2 x27.1.2.2 x27.1.1 ∧ FrX msgE x27.2.2 x27.1.2.2 x27.1.2.1 → EJ ⟨Tryz.prog, 168, σ⟩ K4 [(0, .pointer (some ⟨bp, 0, none⟩)), (6, x27.1.1), (7, x27.1.2.1), (8, .bool true)] x27.2.2 (blk bp (.pointer (some ⟨b.d, 0, none⟩) :: .pointer (some ⟨b.x, 0, none⟩) :: rnC x27.2.1.2.2.1 x27.2.1.1) 39 :: ndB b x27.2.1.2.1 x27.2.1.1 :: lgN b x27.2.1.2.1 x27.2.1.1 :: dkB b.d x27.2.1.2.1.u x27.2.1.2.2.2 :: dkS x27.2.1.2.1.u x27.2.1.2.2.2 :: prA x27.2.1.2.1 x27.2.1.1 :: mpA x27.2.1.2.1.vm x27.2.1.1.votes :: F) := by
    rintro ⟨⟨s6, s7, l⟩, ⟨y, v6, w6, D6⟩, R6⟩ ⟨hLT, hyo, hyv, hyw, hyD, hR6, hf6, hf7⟩
    try dsimp only
    dsimp only at hLT hyo hyv hyw hyD hR6 hf6 hf7
    have hyn := hLT.inn.nin0 hB hyo
    have ho6 := hf6.one
    refine hK4 _ _ _ (cj_seq fun K5 hK5 => ?_)
    refine cj_mixs (L := [blk bp (.pointer (some ⟨b.d, 0, none⟩) :: .pointer (some ⟨b.x, 0, none⟩) :: rnC w6 y) 39]) [0, 1, 2, 3, 4, 5, 6, 7, 8, 9, 10, 11, 12, 13, 14, 15] [16, 17, 18] [19] _ noX_ok sb_ (by kernel_rfl) (by kernel_rfl) (by kernel_rfl) rfl ?_
    refine Wa rfl (fun R1 hR1 G => (y_move rfl)) ?_
    refine Wa rfl (fun R1 hR1 G => (y_move rfl)) ?_
    refine Wa rfl (fun R1 hR1 G => (y_move rfl)) ?_
    refine Wb rfl (fun R1 hR1 G => (y_move rfl)) ?_
    refine Wb rfl (fun R1 hR1 G => (y_move rfl)) ?_
    refine Wb rfl (fun R1 hR1 G => (Ca Tryz.call51 ((msgsSame_q l l s6 s7 (hf6.mono hR1) (hf7.mono hR1)).eq2 (v' := .bool true) (by simp)))) ?_
    refine Wa rfl (fun R1 hR1 G => (y_pick_t rfl rfl)) ?_
    refine Wa rfl (fun R1 hR1 G => (y_move rfl)) ?_
    refine Wb rfl (fun R1 hR1 G => (y_move rfl)) ?_
    refine Wb rfl (fun R1 hR1 G => (y_nilCheck rfl)) ?_
    refine Wb rfl (fun R1 hR1 G => (Ga Tryz.underlying39 Tryz.sizeOf30)) ?_
    first | refine Wb rfl (fun R1 hR1 G => (La o30)) ?_ | refine Wb rfl (fun R1 hR1 G => (Ls o30)) ?_
    refine Wb rfl (fun R1 hR1 G => (y_move rfl)) ?_
    refine Wb rfl (fun R1 hR1 G => (y_nilCheck rfl)) ?_
    refine Wb rfl (fun R1 hR1 G => (Ga Tryz.underlying39 Tryz.sizeOf37)) ?_
    refine Wb rfl (fun R1 hR1 G => (Lb (vs := rnC w6 y) m37)) ?_
    refine fj_nil ?_
    refine xs_all [16] (by kernel_rfl) ⟨?_, trivial⟩
    refine yj_rj rfl ?_
    try simp only [cA, nA, List.append_nil]
    refine rj_call (wn1 rfl rfl rfl rfl) rfl Tryz.call29 rfl (same9_t b v6 w6 y hyn hyv hyw) sp_ (fun _ _ _ _ h => h.elim) ?_
    rintro r9 R9 L' hR9 ⟨rfl, rfl⟩
    try simp only [cA, nA]
    refine rj_yk le_ sb_ ?_
    refine xs_all [17, 18] (by kernel_rfl) ⟨?_, ?_, trivial⟩
    refine yj_rj rfl ?_
    try simp only [cA, nA, List.append_nil]
    refine Pa (y_pick_t rfl rfl) ?_
    refine rj_yk le_ sb_ ?_
    refine xs_all [18] (by kernel_rfl) ⟨?_, trivial⟩
    refine yj_rj rfl ?_
    try simp only [cA, nA, List.append_nil]
    refine Ps ?_
    refine rj_yk le_ sb_ ?_
    refine xs_nil ?_
    try simp only [cA, nA, List.append_nil]
    refine Ps ?_
    refine rj_nil (hK5 _ _ _ ?_)
    refine cj_env (eL 4 rfl (eL 5 rfl eN)) ?_
    refine cj_ret (hret _ _ _ ?_)
    refine Ea Tryz.results16 (.cons (rv_tmp rfl) (.cons (rv_tmp rfl) .nil)) (lnB bp b.d b.x w6 y :: ndI b v6 y D6) (by exact Hp.le_trans hR6 hR9) ?_
    exact ⟨s6, y, v6, w6, D6, rfl, ho6, hLT, hyo, hyv.mono hR9, hyw.mono hR9, hyD, rfl⟩
    refine yj_rj rfl ?_
    try simp only [cA, nA, List.append_nil]
    refine Ps ?_
    refine rj_yk le_ sb_ ?_
    refine xs_all [17] (by kernel_rfl) ⟨?_, trivial⟩
    refine yj_rj rfl ?_
    try simp only [cA, nA, List.append_nil]
    refine Pa (y_pick_t rfl rfl) ?_
    refine rj_yk le_ sb_ ?_
    refine xs_nil ?_
    try simp only [cA, nA, List.append_nil]
    refine Ps ?_
    refine rj_nil (hK5 _ _ _ (cj_ret (hret _ _ _ ?_)))
    refine Ea Tryz.results16 (.cons (rv_tmp rfl) (.cons (rv_tmp rfl) .nil)) (lnB bp b.d b.x w6 y :: ndI b v6 y D6) (by exact Hp.le_trans hR6 hR9) ?_
    exact ⟨s6, y, v6, w6, D6, rfl, ho6, hLT, hyo, hyv.mono hR9, hyw.mono hR9, hyD, rfl⟩
  refine cj_seq fun K6 hK6 => cj_region ?_
  refine Pa (Ga Tryz.underlying54 Tryz.sizeOf3) ?_
  first | refine Pa (La o3) ?_ | refine Pa (Ls o3) ?_
  refine rj_nil (hK6 _ _ _ (cj_block (cj_seq fun K7 hK7 => cj_region ?_)))
  refine Pa (y_eql rfl rfl) ?_
  refine Ps ?_
  refine rj_nil (hK7 _ _ _ ?_)
  refine cj_cond rfl (fun hc20 => ?_) (fun hc20 => ?_)
  have k0 : a.what = 0 := by simpa using hc20
  have han := hs.n k0
  obtain ⟨N, hN⟩ : ∃ N : Nat, a.n = (N : Int) := ⟨a.n.toNat, by omega⟩
  refine cj_add (A := slc 48 10 (.slice none 0 0) 0 ([] : List (List Value)).flatten) (slc_nil _ _) ?_
  refine cj_add (A := slc 48 10 (.slice none 0 0) 0 ([] : List (List Value)).flatten) (slc_nil _ _) ?_
  refine cj_seq fun K9 hK9 => cj_region ?_
  refine Pa (Ga Tryz.underlying54 Tryz.sizeOf3) ?_
  first | refine Pa (La o3) ?_ | refine Pa (Ls o3) ?_
  refine Pm ?_
  refine rj_nil (hK9 _ _ _ (cj_block ?_))
  refine cj_env (E' := (fun (x1 : (Nat × ND × NV × RW × DK) × (Value × Value × List Msg × List (List Value) × List (List Value)) × Hp) => [(0, .pointer (some ⟨bp, 0, none⟩)), (6, x1.2.1.1), (7, x1.2.1.2.1), (8, .bool true), (23, .int .i64 a.n), (24, .int .i64 (x1.1.1 : Int))]) ((0, x, v, w, D), (.slice none 0 0, .slice none 0 0, [], [], []), R)) (eC rfl (eC rfl (eC rfl (eC rfl (eC rfl (eC rfl eN)))))) ?_
  refine cj_sub (M := (fun (x1 : (Nat × ND × NV × RW × DK) × (Value × Value × List Msg × List (List Value) × List (List Value)) × Hp) => slc 48 10 x1.2.1.1 x1.2.1.2.2.1.length x1.2.1.2.2.2.1.flatten :: slc 48 10 x1.2.1.2.1 x1.2.1.2.2.1.length x1.2.1.2.2.2.2.flatten :: blk bp (.pointer (some ⟨b.d, 0, none⟩) :: .pointer (some ⟨b.x, 0, none⟩) :: rnC x1.1.2.2.2.1 x1.1.2.1) 39 :: ndB b x1.1.2.2.1 x1.1.2.1 :: lgN b x1.1.2.2.1 x1.1.2.1 :: dkB b.d x1.1.2.2.1.u x1.1.2.2.2.2 :: dkS x1.1.2.2.1.u x1.1.2.2.2.2 :: prA x1.1.2.2.1 x1.1.2.1 :: mpA x1.1.2.2.1.vm x1.1.2.1.votes :: blk b3 (acC a ve) 54 :: F) ((0, x, v, w, D), (.slice none 0 0, .slice none 0 0, [], [], []), R)) sb_ ?_
  refine cj_loop (fun (x1 : (Nat × ND × NV × RW × DK) × (Value × Value × List Msg × List (List Value) × List (List Value)) × Hp) => [(0, .pointer (some ⟨bp, 0, none⟩)), (6, x1.2.1.1), (7, x1.2.1.2.1), (8, .bool true), (23, .int .i64 a.n), (24, .int .i64 (x1.1.1 : Int))]) (fun (x1 : (Nat × ND × NV × RW × DK) × (Value × Value × List Msg × List (List Value) × List (List Value)) × Hp) => x1.2.2) (fun (x1 : (Nat × ND × NV × RW × DK) × (Value × Value × List Msg × List (List Value) × List (List Value)) × Hp) => slc 48 10 x1.2.1.1 x1.2.1.2.2.1.length x1.2.1.2.2.2.1.flatten :: slc 48 10 x1.2.1.2.1 x1.2.1.2.2.1.length x1.2.1.2.2.2.2.flatten :: blk bp (.pointer (some ⟨b.d, 0, none⟩) :: .pointer (some ⟨b.x, 0, none⟩) :: rnC x1.1.2.2.2.1 x1.1.2.1) 39 :: ndB b x1.1.2.2.1 x1.1.2.1 :: lgN b x1.1.2.2.1 x1.1.2.1 :: dkB b.d x1.1.2.2.1.u x1.1.2.2.2.2 :: dkS x1.1.2.2.1.u x1.1.2.2.2.2 :: prA x1.1.2.2.1 x1.1.2.1 :: mpA x1.1.2.2.1.vm x1.1.2.1.votes :: blk b3 (acC a ve) 54 :: F) (fun (x1 : (Nat × ND × NV × RW × DK) × (Value × Value × List Msg × List (List Value) × List (List Value)) × Hp) => x1.1.1 ≤ N ∧ LT (T + x1.1.1) (I + x1.1.1) (A + x1.1.1) x x1.1.2.1 ∧ x1.1.2.1.out = [] ∧ NOk x1.2.2 x1.1.2.2.1 x1.1.2.1 ∧ RNOk x1.2.2 x1.1.2.2.2.1 x1.1.2.1 ∧ LD (n + 6000 * x1.1.1) x1.1.2.1.g x1.1.2.2.2.2 ∧ R.le x1.2.2 ∧ Els msgE x1.2.2 x1.2.1.2.2.1 x1.2.1.2.2.2.1 ∧ Els msgE x1.2.2 x1.2.1.2.2.1 x1.2.1.2.2.2.2 ∧ x1.2.1.1.oneCell' = true ∧ x1.2.1.2.1.oneCell' = true ∧ x1.2.1.2.2.1.length ≤ 20 * x1.1.1) (fun (x1 : (Nat × ND × NV × RW × DK) × (Value × Value × List Msg × List (List Value) × List (List Value)) × Hp) => N - x1.1.1) ((0, x, v, w, D), (.slice none 0 0, .slice none 0 0, [], [], []), R) (⟨Nat.zero_le _, by simpa using LT.rfl hx, ho, hv, hw, by simpa using hl, Hp.le_refl _, Els.nil, Els.nil, rfl, rfl, Nat.zero_le _⟩) ?_
  rintro ⟨⟨i, y, v6, w6, D6⟩, ⟨s6, s7, l, cs6, cs7⟩, R6⟩ ⟨hi, hy, hyo, hyv, hyw, hyD, hR6, hE6, hE7, ho6, ho7, hll⟩
  try dsimp only
  dsimp only at hi hy hyo hyv hyw hyD hR6 hE6 hE7 ho6 ho7 hll
  have htl := tick_len hyo
  have hyN := hy.inn.idn
  refine cj_seq fun K10 hK10 => cj_region ?_
  refine Pa (y_lss rfl rfl) ?_
  refine rj_nil (hK10 _ _ _ (cj_seq fun K11 hK11 => ?_))
  refine cj_cond rfl (fun hc25 => ?_) (fun hc25 => ?_)
  have hiN : i < N := by (try simp at hc25); omega
  have hyB := hBk i (by omega)
  have hyB1 := hBk (i + 1) (by omega)
  rw [show T + ((i + 1 : Nat) : Int) = T + i + 1 by omega, show I + ((i + 1 : Nat) : Int) = I + i + 1 by omega, show A + (i + 1) = A + i + 1 by omega] at hyB1
  refine cj_skip (hK11 _ _ _ (cj_seq fun K13 hK13 => cj_block (cj_seq fun K14 hK14 => cj_region ?_)))
  refine Pm ?_
  refine Pa (y_nilCheck rfl) ?_
  refine Pa (Ga Tryz.underlying39 Tryz.sizeOf30) ?_
  first | refine Pa (La o30) ?_ | refine Pa (Ls o30) ?_
  refine Ra Tryz.call9 (tickOK_t b v6 y D6 (n + 6000 * i) hy.inn hyo hyB hyv hyD (by omega)) ?_
  rintro r R5 L' hR5 ⟨hvl5, v5, D5, hv5, hD5, rfl⟩
  have hvlo := hvl5.one
  obtain ⟨css5, he5, hf5⟩ := hvl5
  replace hD5 : LD (n + 6000 * (i + 1)) y.tickP.q.g D5 := hD5
  try simp only [cA, nA]
  refine Ps ?_
  refine rj_nil (hK14 _ _ _ (cj_seq fun K15 hK15 => cj_region ?_))
  refine Ps ?_
  refine rj_nil (hK15 _ _ _ (cj_seq fun K16 hK16 => cj_region ?_))
  refine Pm ?_
  refine Pm ?_
  refine Pa (y_nilCheck rfl) ?_
  refine Pa (Ga Tryz.underlying39 Tryz.sizeOf37) ?_
  refine Pa ((Lb (vs := rnC w6 y) m37)) ?_
  refine Ra Tryz.call45 (rtick_t w6 y hy.inn hyB1 hyo (hyw.mono hR5)) ?_
  rintro r R8 L' hR8 ⟨w8, vl8, rfl, hw8, hfx8, rfl⟩
  have hw8o := rnC_one hw8
  have hfo8 := hfx8.one
  obtain ⟨css8, he8, hf8⟩ := hfx8
  try simp only [cA, nA]
  refine Pm ?_
  refine Pa (y_extract rfl rfl) ?_
  refine Pa (y_extract rfl rfl) ?_
  refine Pa (y_nilCheck rfl) ?_
  refine Pa (Ga Tryz.underlying39 Tryz.sizeOf37) ?_
  refine rj_stores (vs := rnC w8 y.tickP) m37 rfl (wn0 rfl) rfl rfl hw8o fd_ (by exact (by decide : 17 ≤ 17)) rfl ?_
  refine Ps ?_
  refine rj_nil (hK16 _ _ _ ?_)
  refine cj_env (eL 0 rfl (eL 6 rfl (eL 7 rfl (eL 8 rfl (eL 9 rfl (eL 10 rfl (eL 23 rfl (eL 24 rfl eN)))))))) ?_
  refine cj_region ?_
  refine Pm ?_
  refine Pm ?_
  refine rj_append (sz := 10) (by_ := 104) ⟨Tryz.underlying28, _, _, rfl, rfl, rfl, rfl, rfl⟩ (wn0 rfl) rfl rfl rfl fd_ ((FrX.src (T := msgE) Tryz.underlying28 (l := y.tickP.out) (css := css5) (he5.mono hR8) (hf5.mono hR8))) rfl om_ (by simp only [maxLen]; omega) (fun v44 ho44 hh44 => ?_)
  rw [← List.flatten_append, ← List.length_append]
  refine Pm ?_
  refine Pm ?_
  refine rj_append (sz := 10) (by_ := 104) ⟨Tryz.underlying28, _, _, rfl, rfl, rfl, rfl, rfl⟩ (wn0 rfl) rfl rfl rfl fd_ ((FrX.src (T := msgE) Tryz.underlying28 (l := y.tickP.out) (css := css8) he8 hf8)) rfl om_ (by simp only [maxLen]; omega) (fun v47 ho47 hh47 => ?_)
  rw [← List.flatten_append, ← List.length_append]
  refine Ps ?_
  refine Ps ?_
  refine rj_nil (hK13 _ _ _ (cj_region ?_))
  first | refine Pa (y_add64 rfl rfl om_) ?_ | refine Pa (y_add rfl rfl) ?_
  refine Pm ?_
  refine rj_nil ?_
  refine ej_on (q' := roundK _ _ _ _ _ _ _) rfl ?_
  refine ej_round (((i + 1, y.tickP.q, v5, w8, D5), (v44, v47, l ++ y.tickP.out, cs6 ++ css5, cs7 ++ css8), R8)) (⟨by dsimp only; omega, by have := hy.next (hy.inn.tickP.q); simpa [Int.add_assoc, Nat.add_assoc] using this, rfl, hv5.mono hR8, hw8.q, hD5, Hp.le_trans hR6 (Hp.le_trans hR5 hR8), ((hE6.mono hR5).app he5).mono hR8, (hE7.mono (Hp.le_trans hR5 hR8)).app he8, by assumption, by assumption, by dsimp only; rw [List.length_append]; omega⟩) (by dsimp only; omega) (eC rfl (eC rfl (eC rfl (eC rfl (eC rfl (eC rfl eN)))))) rfl sb_
  obtain rfl : i = N := by (try simp at hc25); omega
  refine cj_freeze (e := 48) (sz := 10) (n := l.length) (v := s6) (xs := cs6.flatten) fd_ (fun R3 hR3 hfr3 hxl3 => ?_)
  refine cj_freeze (e := 48) (sz := 10) (n := l.length) (v := s7) (xs := cs7.flatten) fd_ (fun R4 hR4 hfr4 hxl4 => ?_)
  have hR34 := Hp.le_trans hR3 hR4
  have hfx6 : FrX msgE R4 l s6 := (FrozenS.frx hfr3 (hE6.mono hR3)).mono hR4
  have hfx7 : FrX msgE R4 l s7 := FrozenS.frx hfr4 (hE7.mono hR34)
  have hLTe : LT (T + 4294967400) (I + 4294967400) (A + 100) x y := hy.mono (by omega) (by omega) (by omega)
  refine cj_exit ?_
  refine ej_join hJ27 (((s6, s7, l), (y, v6, w6, D6), R4)) (⟨hLTe, hyo, hyv.mono hR34, hyw.mono hR34, LD.mono2 hyD (by omega), Hp.le_trans hR6 hR34, hfx6, hfx7⟩) (eC rfl (eC rfl (eC rfl (eC rfl eN)))) rfl sb_
  have k0 : ¬ a.what = 0 := by simpa using hc20
  refine cj_seq fun K17 hK17 => cj_region ?_
  refine Pa (y_eql rfl rfl) ?_
  refine Ps ?_
  refine rj_nil (hK17 _ _ _ ?_)
  refine cj_cond rfl (fun hc49 => ?_) (fun hc49 => ?_)
  have k1 : a.what = 1 := by simpa using hc49
  have hx' : LIn (T + 4294967296) (I + 4294967296) A x := hx.mono (by have := hx.term; omega) (by omega) (Nat.le_refl _)
  refine cj_seq fun K19 hK19 => ?_
  refine cj_mixg (L := [blk b3 (acC a ve) 54, blk bp (.pointer (some ⟨b.d, 0, none⟩) :: .pointer (some ⟨b.x, 0, none⟩) :: rnC w x) 39]) [0, 1, 2, 3, 4, 5] [6] [7] _ sb_ (by kernel_rfl) (by kernel_rfl) (by kernel_rfl) rfl ?_
  refine Wa rfl (fun R1 hR1 G => (Lm (vs := acC a ve) m54)) ?_
  refine Wa rfl (fun R1 hR1 G => (y_move rfl)) ?_
  refine Wa rfl (fun R1 hR1 G => (y_nilCheck rfl)) ?_
  refine Wa rfl (fun R1 hR1 G => (Ga Tryz.underlying39 Tryz.sizeOf37)) ?_
  refine Wa rfl (fun R1 hR1 G => (Lb (vs := rnC w x) m37)) ?_
  refine Wa rfl (fun R1 hR1 G => (Ca Tryz.call46 (near_q a ve w x hx0 (hw.mono hR1) hs hb (hve.mono hR1)))) ?_
  refine fj_nil ?_
  refine xj_rj rfl ?_
  try simp only [cA, nA, List.append_nil]
  refine rj_alloc (wn0 rfl) rfl Tryz.zeroValue48 rfl (fun b11 => ?_)
  refine rj_xk le_ sb_ ?_
  refine xj_nil ?_
  try simp only [cA, nA, List.append_nil]
  refine Sm (vs := msgC (nearM a x) ve) m48 (msgC_one hveo) ?_
  refine rj_nil (hK19 _ _ _ (cj_seq fun K20 hK20 => ?_))
  refine cj_mixg (L := [blk b11 (msgC (nearM a x) ve) 48, blk bp (.pointer (some ⟨b.d, 0, none⟩) :: .pointer (some ⟨b.x, 0, none⟩) :: rnC w x) 39]) [0, 1, 2, 3, 4] [] [5, 6] _ sb_ (by kernel_rfl) (by kernel_rfl) (by kernel_rfl) rfl ?_
  refine Wa rfl (fun R1 hR1 G => (y_move rfl)) ?_
  refine Wa rfl (fun R1 hR1 G => (y_nilCheck rfl)) ?_
  refine Wa rfl (fun R1 hR1 G => (Ga Tryz.underlying39 Tryz.sizeOf30)) ?_
  first | refine Wa rfl (fun R1 hR1 G => (La o30)) ?_ | refine Wa rfl (fun R1 hR1 G => (Ls o30)) ?_
  refine Wa rfl (fun R1 hR1 G => (Lm (vs := msgC (nearM a x) ve) m48)) ?_
  refine fj_nil ?_
  refine xj_nil ?_
  try simp only [cA, nA, List.append_nil]
  refine Ra Tryz.call11 (receiveOK_t b v x D (nearM a x) ve n hx' ho (LIn.bb hB (by omega) (by omega) (by omega)) hnm (by omega) (by rw [hne]; exact hve) hv hl (by omega)) ?_
  rintro r5 R5 L' hR5 ⟨hvl5, v5, D5, hv5, hD5, rfl⟩
  have hvlo := hvl5.one
  try simp only [cA, nA]
  refine Ps ?_
  refine rj_nil (hK20 _ _ _ ?_)
  refine cj_env (eL 0 rfl (eL 6 rfl (eL 8 rfl (eL 11 rfl eN)))) ?_
  refine cj_brk (L := [blk b11 (msgC (nearM a x) ve) 48, blk bp (.pointer (some ⟨b.d, 0, none⟩) :: .pointer (some ⟨b.x, 0, none⟩) :: rnC w x) 39]) [0, 1, 2, 3, 4, 5, 7, 8, 9, 10, 11, 13] [0, 1, 7, 8, 9, 13] 12 [0, 1, 2, 3, 4, 5, 6, 7, 8, 9, 10, 11, 12, 13] _ sb_ (by kernel_rfl) (by kernel_rfl) (by kernel_rfl) ?_
  refine sb_pure (by decide) rfl rfl rfl (wn0 rfl) (fun R1 G => (y_move rfl)) ?_
  refine sb_pure (by decide) rfl rfl rfl (wn0 rfl) (fun R1 G => (y_move rfl)) ?_
  refine sb_val (by decide) (by decide) rfl rfl rfl (wn0 rfl) (fun R1 hR1 G => (y_nilCheck rfl)) ?_
  refine sb_val (by decide) (by decide) rfl rfl rfl (wn0 rfl) (fun R1 hR1 G => (Ga Tryz.underlying39 Tryz.sizeOf37)) ?_
  refine sb_val (by decide) (by decide) rfl rfl rfl (wn0 rfl) (fun R1 hR1 G => (Lb (vs := rnC w x) m37)) ?_
  refine sb_val (by decide) (by decide) rfl rfl rfl (wn0 rfl) (fun R1 hR1 G => (Lm (vs := msgC (nearM a x) ve) m48)) ?_
  refine sb_row (by decide) rfl ?_
  try simp only [cA, nA, List.append_nil]
  refine Ra Tryz.call47 (rreceive_t w x (nearM a x) ve hx' (LIn.bb hBm (Int.le_refl _) (by omega) (by omega)) ho (hw.mono hR5) hnm (by omega) (by rw [hne]; exact hve.mono hR5)) ?_
  rintro r8 R8 L' hR8 ⟨w8, vl8, rfl, hw8, hfx8, rfl⟩
  have hw8o := rnC_one hw8
  have hfo8 := hfx8.one
  have hR58 := Hp.le_trans hR5 hR8
  have hLTe : LT (T + 4294967400) (I + 4294967400) (A + 100) x (x.receiveP (nearM a x)).q := ((hx'.receiveP hnm).q).mono (by omega) (by omega) (by omega)
  try simp only [cA, nA]
  refine rj_bk le_ sb_ ?_
  refine sb_pure (by decide) rfl rfl rfl (wn0 rfl) (fun R1 G => (y_move rfl)) ?_
  refine sb_pure (by decide) rfl rfl rfl (wn0 rfl) (fun R1 G => (y_extract rfl rfl)) ?_
  refine sb_pure (by decide) rfl rfl rfl (wn0 rfl) (fun R1 G => (y_extract rfl rfl)) ?_
  refine sb_val (by decide) (by decide) rfl rfl rfl (wn0 rfl) (fun R1 hR1 G => (y_nilCheck rfl)) ?_
  refine sb_val (by decide) (by decide) rfl rfl rfl (wn0 rfl) (fun R1 hR1 G => (Ga Tryz.underlying39 Tryz.sizeOf37)) ?_
  refine sb_row (by decide) rfl ?_
  try simp only [cA, nA, List.append_nil]
  refine rj_stores (vs := rnC w8 (x.receiveP (nearM a x))) m37 rfl (wn0 rfl) rfl rfl hw8o fd_ (by exact (by decide : 17 ≤ 17)) rfl ?_
  refine rj_bk0 le_ ?_
  refine sb_pure (by decide) rfl rfl rfl (wn0 rfl) (fun R1 G => (y_assign rfl)) ?_
  refine sb_nil ?_
  try simp only [cA, nA, List.append_nil]
  refine ej_join hJ27 (((r5, vl8, (x.receiveP (nearM a x)).out), ((x.receiveP (nearM a x)).q, v5, w8, D5), R8)) (⟨hLTe, rfl, hv5.mono hR8, hw8.q, LD.mono2 (show LD _ (x.receiveP (nearM a x)).q.g D5 from hD5) (by omega), hR58, hvl5.mono hR8, hfx8⟩) (eC rfl (eC rfl (eC rfl (eC rfl eN)))) rfl sb_
  have k1 : ¬ a.what = 1 := by simpa using hc49
  refine cj_seq fun K21 hK21 => cj_region ?_
  refine Pa (y_eql rfl rfl) ?_
  refine Ps ?_
  refine rj_nil (hK21 _ _ _ ?_)
  refine cj_cond rfl (fun hc75 => ?_) (fun hc75 => ?_)
  have k2 : a.what = 2 := by simpa using hc75
  refine cj_seq fun K23 hK23 => cj_region ?_
  refine Ps ?_
  refine Ps ?_
  refine Ps ?_
  refine Ps ?_
  refine rj_nil (hK23 _ _ _ (cj_seq fun K24 hK24 => ?_))
  refine cj_mixt (L := [blk b3 (acC a ve) 54, blk bp (.pointer (some ⟨b.d, 0, none⟩) :: .pointer (some ⟨b.x, 0, none⟩) :: rnC w x) 39]) [0, 1, 2, 3, 4, 5] [] [6, 7, 8, 9, 10, 11, 12, 13] _ sb_ (by kernel_rfl) (by kernel_rfl) ?_
  refine Wa rfl (fun R1 hR1 G => (y_move rfl)) ?_
  refine Wa rfl (fun R1 hR1 G => (y_nilCheck rfl)) ?_
  refine Wa rfl (fun R1 hR1 G => (Ga Tryz.underlying39 Tryz.sizeOf30)) ?_
  first | refine Wa rfl (fun R1 hR1 G => (La o30)) ?_ | refine Wa rfl (fun R1 hR1 G => (Ls o30)) ?_
  refine Wa rfl (fun R1 hR1 G => (Ga Tryz.underlying54 Tryz.sizeOf9)) ?_
  first | refine Wa rfl (fun R1 hR1 G => (La o9)) ?_ | refine Wa rfl (fun R1 hR1 G => (Ls o9)) ?_
  refine fj_nil ?_
  refine xj_nil ?_
  try simp only [cA, nA, List.append_nil]
  refine tj_all (rs := [6]) (by kernel_rfl) (by decide) ⟨⟨_, rfl, ?_⟩, trivial⟩
  refine Ra Tryz.call21 (proposeOK_t b v x D a.text n hx ho hB0 htx hv hl (by omega)) ?_
  rintro r5 R5 L' hR5 ⟨vl5, rfl, hvl5, v5, D5, hv5, hD5, rfl⟩
  have hvlo := hvl5.one
  try simp only [cA, nA]
  refine rj_tj ?_
  refine tj_all (rs := [7]) (by kernel_rfl) (by decide) ⟨⟨_, rfl, ?_⟩, trivial⟩
  refine Pm ?_
  refine rj_tj ?_
  refine tj_take (i := 8) rfl rfl rfl (by kernel_rfl) (by kernel_rfl) (by kernel_rfl) (wn0 rfl) rfl (fun σ => (y_extract rfl rfl)) ?_
  refine tj_take (i := 9) rfl rfl rfl (by kernel_rfl) (by kernel_rfl) (by kernel_rfl) (wn0 rfl) rfl (fun σ => (y_extract rfl rfl)) ?_
  refine tj_take (i := 10) rfl rfl rfl (by kernel_rfl) (by kernel_rfl) (by kernel_rfl) (wn0 rfl) rfl (fun σ => (y_extract rfl rfl)) ?_
  refine tj_all (rs := [11]) (by kernel_rfl) (by decide) ⟨⟨_, rfl, ?_⟩, trivial⟩
  refine Ps ?_
  refine rj_tj ?_
  refine tj_all (rs := [12]) (by kernel_rfl) (by decide) ⟨⟨_, rfl, ?_⟩, trivial⟩
  refine Ps ?_
  refine rj_tj ?_
  refine tj_all (rs := [13]) (by kernel_rfl) (by decide) ⟨⟨_, rfl, ?_⟩, trivial⟩
  refine Ps ?_
  refine rj_tj ?_
  refine tj_done (by kernel_rfl) ?_
  refine hK24 _ _ _ (cj_seq fun K25 hK25 => ?_)
  refine cj_brk (L := [blk b3 (acC a ve) 54, blk bp (.pointer (some ⟨b.d, 0, none⟩) :: .pointer (some ⟨b.x, 0, none⟩) :: rnC w x) 39]) [0, 1, 2, 3, 4, 5, 6, 8, 9, 10, 11, 12, 13, 14, 16, 17, 18] [0, 1, 8, 9, 10, 11, 12, 16, 17, 18] 15 [0, 1, 2, 3, 4, 5, 6, 7, 8, 9, 10, 11, 12, 13, 14, 15, 16, 17, 18] _ sb_ (by kernel_rfl) (by kernel_rfl) (by kernel_rfl) ?_
  refine sb_pure (by decide) rfl rfl rfl (wn0 rfl) (fun R1 G => (y_move rfl)) ?_
  refine sb_pure (by decide) rfl rfl rfl (wn0 rfl) (fun R1 G => (y_move rfl)) ?_
  refine sb_val (by decide) (by decide) rfl rfl rfl (wn0 rfl) (fun R1 hR1 G => (y_nilCheck rfl)) ?_
  refine sb_val (by decide) (by decide) rfl rfl rfl (wn0 rfl) (fun R1 hR1 G => (Ga Tryz.underlying39 Tryz.sizeOf37)) ?_
  refine sb_val (by decide) (by decide) rfl rfl rfl (wn0 rfl) (fun R1 hR1 G => (Lb (vs := rnC w x) m37)) ?_
  refine sb_val (by decide) (by decide) rfl rfl rfl (wn0 rfl) (fun R1 hR1 G => (Ga Tryz.underlying54 Tryz.sizeOf9)) ?_
  first | refine sb_val (by decide) (by decide) rfl rfl rfl (wn0 rfl) (fun R1 hR1 G => (La o9)) ?_ | refine sb_val (by decide) (by decide) rfl rfl rfl (wn0 rfl) (fun R1 hR1 G => (Ls o9)) ?_
  refine sb_row (by decide) rfl ?_
  try simp only [cA, nA, List.append_nil]
  refine Ra Tryz.call48 (rpropose_t w x a.text hx (hBk1) ho (hw.mono hR5) htx) ?_
  rintro r8 R8 L' hR8 ⟨w8, vl8, rfl, hw8, hfx8, rfl⟩
  have hw8o := rnC_one hw8
  have hfo8 := hfx8.one
  have hR58 := Hp.le_trans hR5 hR8
  have hLTe : LT (T + 4294967400) (I + 4294967400) (A + 100) x (x.proposeP a.text).2.q := ((hx.proposeP htx).q).mono (by omega) (by omega) (by omega)
  try simp only [cA, nA]
  refine rj_bk le_ sb_ ?_
  refine sb_pure (by decide) rfl rfl rfl (wn0 rfl) (fun R1 G => (y_move rfl)) ?_
  refine sb_pure (by decide) rfl rfl rfl (wn0 rfl) (fun R1 G => (y_extract rfl rfl)) ?_
  refine sb_pure (by decide) rfl rfl rfl (wn0 rfl) (fun R1 G => (y_extract rfl rfl)) ?_
  refine sb_pure (by decide) rfl rfl rfl (wn0 rfl) (fun R1 G => (y_extract rfl rfl)) ?_
  refine sb_pure (by decide) rfl rfl rfl (wn0 rfl) (fun R1 G => (y_extract rfl rfl)) ?_
  refine sb_val (by decide) (by decide) rfl rfl rfl (wn0 rfl) (fun R1 hR1 G => (y_nilCheck rfl)) ?_
  refine sb_val (by decide) (by decide) rfl rfl rfl (wn0 rfl) (fun R1 hR1 G => (Ga Tryz.underlying39 Tryz.sizeOf37)) ?_
  refine sb_row (by decide) rfl ?_
  try simp only [cA, nA, List.append_nil]
  refine rj_stores (vs := rnC w8 (x.proposeP a.text).2) m37 rfl (wn0 rfl) rfl rfl hw8o fd_ (by exact (by decide : 17 ≤ 17)) rfl ?_
  refine rj_bk0 le_ ?_
  refine sb_pure (by decide) rfl rfl rfl (wn0 rfl) (fun R1 G => (y_assign rfl)) ?_
  refine sb_pure (by decide) rfl rfl rfl (wn0 rfl) (fun R1 G => (y_assign rfl)) ?_
  refine sb_pure (by decide) rfl rfl rfl (wn0 rfl) (fun R1 G => (y_assign rfl)) ?_
  refine sb_nil ?_
  try simp only [cA, nA, List.append_nil]
  refine hK25 _ _ _ (cj_region ?_)
  refine Pm ?_
  refine Pm ?_
  refine Pa ((Yld.to (u := .bool true) (y_eql rfl rfl) (by simp))) ?_
  refine Pm ?_
  refine Pb (y_move rfl) ?_
  refine Pb (y_move rfl) ?_
  refine Pb ((Yld.to (u := .bool true) (y_eql rfl rfl) (by simp))) ?_
  refine Pa (y_pick_t rfl rfl) ?_
  refine Ps ?_
  refine rj_nil ?_
  refine ej_join hJ27 (((vl5, vl8, (x.proposeP a.text).1.2.2), ((x.proposeP a.text).2.q, v5, w8, D5), R8)) (⟨hLTe, rfl, hv5.mono hR8, hw8.q, LD.mono2 (show LD _ (x.proposeP a.text).2.q.g D5 from hD5) (by omega), hR58, hvl5.mono hR8, hfx8⟩) (eC rfl (eC rfl (eC rfl (eC rfl eN)))) rfl sb_
  have k2 : ¬ a.what = 2 := by simpa using hc75
  refine cj_seq fun K26 hK26 => cj_region ?_
  refine Pa (y_eql rfl rfl) ?_
  refine Ps ?_
  refine rj_nil (hK26 _ _ _ ?_)
  refine cj_env (eL 0 rfl (eL 3 rfl (eL 6 rfl (eL 7 rfl (eL 8 rfl (eL 111 rfl eN)))))) ?_
  refine cj_cond rfl (fun hc111 => ?_) (fun hc111 => ?_)
  have k3 : a.what = 3 := by simpa using hc111
  refine cj_seq fun K28 hK28 => ?_
  refine cj_mixg (L := [blk b3 (acC a ve) 54, blk bp (.pointer (some ⟨b.d, 0, none⟩) :: .pointer (some ⟨b.x, 0, none⟩) :: rnC w x) 39]) [0, 1, 2, 3, 4, 5, 6, 7] [] [8, 9] _ sb_ (by kernel_rfl) (by kernel_rfl) (by kernel_rfl) rfl ?_
  refine Wa rfl (fun R1 hR1 G => (y_move rfl)) ?_
  refine Wa rfl (fun R1 hR1 G => (y_nilCheck rfl)) ?_
  refine Wa rfl (fun R1 hR1 G => (Ga Tryz.underlying39 Tryz.sizeOf30)) ?_
  first | refine Wa rfl (fun R1 hR1 G => (La o30)) ?_ | refine Wa rfl (fun R1 hR1 G => (Ls o30)) ?_
  refine Wa rfl (fun R1 hR1 G => (Ga Tryz.underlying54 Tryz.sizeOf31)) ?_
  first | refine Wa rfl (fun R1 hR1 G => (La o31)) ?_ | refine Wa rfl (fun R1 hR1 G => (Ls o31)) ?_
  refine Wa rfl (fun R1 hR1 G => (Ga Tryz.underlying54 Tryz.sizeOf9)) ?_
  first | refine Wa rfl (fun R1 hR1 G => (La o9)) ?_ | refine Wa rfl (fun R1 hR1 G => (Ls o9)) ?_
  refine fj_nil ?_
  refine xj_nil ?_
  try simp only [cA, nA, List.append_nil]
  refine Ra Tryz.call49 (compactOK_t b v x D a.index a.text n hx ho hB0 hub (by omega) hv hl (by omega)) ?_
  rintro r5 R5 L' hR5 ⟨rfl, v5, D5, hv5, hD5, rfl⟩
  have hLTe : LT (T + 4294967400) (I + 4294967400) (A + 100) x (x.compactP a.index a.text).2.q := ((hx.compactP (by omega)).q).mono (by omega) (by omega) (by omega)
  have hcP := compR_P (i := a.index) (s := a.text) hx
  obtain ⟨z, hz⟩ : ∃ z, z = (x.compactP a.index a.text).2.q := ⟨_, rfl⟩
  have hzq : z.out = [] := by rw [hz]; rfl
  replace hD5 : LD n z.g D5 := by rw [hz]; exact hD5
  rw [← hz] at hLTe hv5 ⊢
  try simp only [cA, nA]
  refine Ps ?_
  refine rj_nil (hK28 _ _ _ (cj_seq fun K29 hK29 => cj_region ?_))
  refine Ps ?_
  refine rj_nil (hK29 _ _ _ (cj_seq fun K30 hK30 => cj_seq fun K31 hK31 => ?_))
  refine cj_draw (by kernel_rfl) (by kernel_rfl) ?_
  refine Qa (Ga Tryz.underlying54 Tryz.sizeOf31) ?_
  first | refine Qa (La o31) ?_ | refine Qa (Ls o31) ?_
  refine Qa (y_move rfl) ?_
  refine Qa (y_nilCheck rfl) ?_
  refine Qa (Ga Tryz.underlying39 Tryz.sizeOf37) ?_
  refine Qa (Ga Tryz.underlying37 Tryz.sizeOf31) ?_
  first | refine Qa (La o31) ?_ | refine Qa (Ls o31) ?_
  refine Qa (y_leq rfl rfl) ?_
  refine qj_nil ?_
  refine hK31 _ _ _ ?_
  refine cj_env (eL 0 rfl (eL 3 rfl (eL 6 rfl (eL 7 rfl (eL 16 rfl (eL 17 rfl (eL 129 rfl eN))))))) ?_
  refine cj_cond rfl (fun hc129 => ?_) (fun hc129 => ?_)
  have h1 : a.index ≤ x.commit := by simpa using hc129
  rw [if_pos h1] at hcP
  have hcP1 := congrArg Prod.fst hcP
  have hcP2 : (x.g.compR a.index a.text).2 = (x.compactP a.index a.text).1 := congrArg Prod.snd hcP
  dsimp only at hcP1
  refine cj_brk (L := [blk b3 (acC a ve) 54, blk bp (.pointer (some ⟨b.d, 0, none⟩) :: .pointer (some ⟨b.x, 0, none⟩) :: rnC w x) 39]) [0, 1, 2, 3, 4, 5, 6, 7, 8, 9, 11, 12, 13, 14, 15, 16, 18] [0, 1, 11, 12, 13, 18] 17 [0, 1, 2, 3, 4, 5, 6, 7, 8, 9, 10, 11, 12, 13, 14, 15, 16, 17, 18] _ sb_ (by kernel_rfl) (by kernel_rfl) (by kernel_rfl) ?_
  refine sb_pure (by decide) rfl rfl rfl (wn0 rfl) (fun R1 G => (y_move rfl)) ?_
  refine sb_pure (by decide) rfl rfl rfl (wn0 rfl) (fun R1 G => (y_move rfl)) ?_
  refine sb_val (by decide) (by decide) rfl rfl rfl (wn0 rfl) (fun R1 hR1 G => (y_nilCheck rfl)) ?_
  refine sb_val (by decide) (by decide) rfl rfl rfl (wn0 rfl) (fun R1 hR1 G => (Ga Tryz.underlying39 Tryz.sizeOf37)) ?_
  refine sb_val (by decide) (by decide) rfl rfl rfl (wn0 rfl) (fun R1 hR1 G => (Ga Tryz.underlying37 Tryz.sizeOf34)) ?_
  refine sb_val (by decide) (by decide) rfl rfl rfl (wn0 rfl) (fun R1 hR1 G => (Lb (vs := rlC w.va x.g) m34)) ?_
  refine sb_val (by decide) (by decide) rfl rfl rfl (wn0 rfl) (fun R1 hR1 G => (Ga Tryz.underlying54 Tryz.sizeOf31)) ?_
  first | refine sb_val (by decide) (by decide) rfl rfl rfl (wn0 rfl) (fun R1 hR1 G => (La o31)) ?_ | refine sb_val (by decide) (by decide) rfl rfl rfl (wn0 rfl) (fun R1 hR1 G => (Ls o31)) ?_
  refine sb_val (by decide) (by decide) rfl rfl rfl (wn0 rfl) (fun R1 hR1 G => (Ga Tryz.underlying54 Tryz.sizeOf9)) ?_
  first | refine sb_val (by decide) (by decide) rfl rfl rfl (wn0 rfl) (fun R1 hR1 G => (La o9)) ?_ | refine sb_val (by decide) (by decide) rfl rfl rfl (wn0 rfl) (fun R1 hR1 G => (Ls o9)) ?_
  refine sb_row (by decide) rfl ?_
  try simp only [cA, nA, List.append_nil]
  refine Ra Tryz.call50 (rlCompact_t w.va x.g a.index a.text hxg hub (hw.va.mono hR5)) ?_
  rintro r8 R8 L' hR8 ⟨⟨va8, rfl, hva8⟩, rfl⟩
  have hva8o := hva8.one
  have hR58 := Hp.le_trans hR5 hR8
  obtain ⟨w8, hw8e⟩ : ∃ w8 : RW, w8 = { w with va := va8 } := ⟨_, rfl⟩
  have hzx : z = ND.q { x with g := (x.g.compR a.index a.text).1 } := by rw [hz, hcP1]
  have hw8 : RNOk R8 w8 z := by rw [hw8e, hzx]; exact ((hw.mono hR58).logd hva8).q
  try simp only [cA, nA]
  refine rj_bk le_ sb_ ?_
  refine sb_pure (by decide) rfl rfl rfl (wn0 rfl) (fun R1 G => (y_move rfl)) ?_
  refine sb_pure (by decide) rfl rfl rfl (wn0 rfl) (fun R1 G => (y_extract rfl rfl)) ?_
  refine sb_pure (by decide) rfl rfl rfl (wn0 rfl) (fun R1 G => (y_extract rfl rfl)) ?_
  refine sb_val (by decide) (by decide) rfl rfl rfl (wn0 rfl) (fun R1 hR1 G => (y_nilCheck rfl)) ?_
  refine sb_val (by decide) (by decide) rfl rfl rfl (wn0 rfl) (fun R1 hR1 G => (Ga Tryz.underlying39 Tryz.sizeOf37)) ?_
  refine sb_val (by decide) (by decide) rfl rfl rfl (wn0 rfl) (fun R1 hR1 G => (Ga Tryz.underlying37 Tryz.sizeOf34)) ?_
  refine sb_row (by decide) rfl ?_
  try simp only [cA, nA, List.append_nil]
  refine rj_stores (vs := rlC va8 (x.g.compR a.index a.text).1) m34 rfl (wn0 rfl) rfl rfl (rlC_one _ hva8o) fd_ (by exact (by decide : 10 ≤ 17)) rfl ?_
  refine rj_bk0 le_ ?_
  refine sb_pure (by decide) rfl rfl rfl (wn0 rfl) (fun R1 G => (y_assign rfl)) ?_
  refine sb_nil ?_
  try simp only [cA, nA, List.append_nil]
  refine hK30 _ _ _ ?_
  first|(refine cj_turnA (A := blk bp _ 39) (B := blk bp (.pointer (some ⟨b.d, 0, none⟩) :: .pointer (some ⟨b.x, 0, none⟩) :: rnC w8 z) 39) fd_ (fun h hh => by (first|exact hh|(rw [hw8e, hzx]; exact hh))) ?_)
  refine cj_region ?_
  refine Pm ?_
  refine Pm ?_
  refine Pa ((Yld.to (u := .bool true) (y_eql rfl rfl) (by rw [hcP2]; simp))) ?_
  refine Ps ?_
  refine rj_nil ?_
  refine ej_join hJ27 (((.slice none 0 0, .slice none 0 0, []), (z, v5, w8, D5), R8)) (⟨hLTe, hzq, hv5.mono hR8, hw8, LD.mono2 hD5 (by omega), hR58, FrX.nil, FrX.nil⟩) (eC rfl (eC rfl (eC rfl (eC rfl eN)))) rfl sb_
  have h1 : ¬ a.index ≤ x.commit := by simpa using hc129
  rw [if_neg h1] at hcP
  have hcP1 : x = (x.compactP a.index a.text).2 := congrArg Prod.fst hcP
  have hcP2 : (1 : Int) = (x.compactP a.index a.text).1 := congrArg Prod.snd hcP
  have hzx : z = x := by rw [hz, ← hcP1]; exact q_eq ho
  obtain ⟨w8, hw8e⟩ : ∃ w8 : RW, w8 = w := ⟨_, rfl⟩
  have hw8 : RNOk R5 w8 z := by rw [hw8e, hzx]; exact hw.mono hR5
  have hR58 := hR5
  refine cj_turnA (A := blk bp _ 39) (B := blk bp (.pointer (some ⟨b.d, 0, none⟩) :: .pointer (some ⟨b.x, 0, none⟩) :: rnC w8 z) 39) fd_ (fun h hh => by rw [hw8e, hzx]; exact hh) ?_
  refine cj_skip (hK30 _ _ _ ?_)
  first|(refine cj_turnA (A := blk bp _ 39) (B := blk bp (.pointer (some ⟨b.d, 0, none⟩) :: .pointer (some ⟨b.x, 0, none⟩) :: rnC w8 z) 39) fd_ (fun h hh => by (first|exact hh|(rw [hw8e, hzx]; exact hh))) ?_)
  refine cj_region ?_
  refine Pm ?_
  refine Pm ?_
  refine Pa ((Yld.to (u := .bool true) (y_eql rfl rfl) (by rw [hcP2]; simp))) ?_
  refine Ps ?_
  refine rj_nil ?_
  refine ej_join hJ27 (((.slice none 0 0, .slice none 0 0, []), (z, v5, w8, D5), R5)) (⟨hLTe, hzq, hv5, hw8, LD.mono2 hD5 (by omega), hR58, FrX.nil, FrX.nil⟩) (eC rfl (eC rfl (eC rfl (eC rfl eN)))) rfl sb_
  have k3 : ¬ a.what = 3 := by simpa using hc111
  refine cj_skip ?_
  refine ej_join hJ27 (((.slice none 0 0, .slice none 0 0, []), (x, v, w, D), R)) (⟨(LT.rfl hx).mono (by omega) (by omega) (by omega), ho, hv, hw, LD.mono2 hl (by omega), Hp.le_refl _, FrX.nil, FrX.nil⟩) (eC rfl (eC rfl (eC rfl (eC rfl eN)))) rfl sb_
end V
end Go.Proofs.YtjdbigplednihaaGreat
set_option linter.unusedSimpArgs false
set_option linter.unusedVariables false
set_option maxRecDepth 100000
namespace Go.Proofs.YtjdbigplednihaaGreat
open Go.RowKit
namespace V
set_option maxHeartbeats 4000000
abbrev Kn := Int → Option Ent
def knF (kn : Kn) : Int → Option Value := fun i => (kn i).map fun e => Value.agg ⟨entC e⟩
def kset (kn : Kn) (i : Int) (e : Ent) : Kn := fun k => if k = i then some e else kn k
theorem knF_set (kn : Kn) (i : Int) (e : Ent) : fset (knF kn) i (.agg ⟨entC e⟩) = knF (kset kn i e) := by
  funext k
  unfold fset knF kset
  split <;> rfl
structure KI (kn : Kn) (y : ND) : Prop where
  at_ : ∀ i e, kn i = some e → y.g.base < i → y.g.at i = some e
  le : ∀ i e, kn i = some e → i ≤ y.commit
theorem KI.none (y : ND) : KI (fun _ => Option.none) y := ⟨fun i e h => (by cases h), fun i e h => (by cases h)⟩
theorem KI.next {kn : Kn} {x y : ND} (h : KI kn x) (t : TR x y) : KI kn y :=
  ⟨fun i e he hb => by
    have h1 := h.le i e he
    have h2 := t.base
    rw [t.at_ i hb h1]
    exact h.at_ i e he (by omega), fun i e he => Int.le_trans (h.le i e he) t.com⟩
theorem KI.set {kn : Kn} {y : ND} (h : KI kn y) {i : Int} {e : Ent} (hi : i ≤ y.commit) (he : y.g.at i = some e) : KI (kset kn i e) y :=
  ⟨fun k e2 hk hb => by
    unfold kset at hk
    split at hk
    · rename_i hk2; subst hk2; cases hk; exact he
    · exact h.at_ k e2 hk hb, fun k e2 hk => by
    unfold kset at hk
    split at hk
    · rename_i hk2; subst hk2; exact hi
    · exact h.le k e2 hk⟩
theorem kn_cases (kn : Kn) (i : Int) : ∃ (e : Ent) (ok : Bool), Value.tuple #[((knF kn) i).getD (.agg ⟨[.int .u64 0, .string (str [])]⟩), .bool ((knF kn) i).isSome] = tupOf [.agg ⟨entC e⟩, .bool ok] ∧ (ok = true → kn i = some e) := by
  unfold knF
  cases h : kn i with
  | none => exact ⟨(0, []), false, rfl, fun h => by cases h⟩
  | some e => exact ⟨e, true, rfl, fun _ => rfl⟩
theorem at_some {g : LG} {i : Int} (h : g.base < i ∧ i ≤ g.last) : ∃ e, g.at i = some e := by
  rw [at_in h]
  unfold LG.last at h
  exact ⟨_, List.getElem?_eq_getElem (by omega)⟩
theorem raftKeeps_t {R : Hp} (id n : Int) (h0 : IntKind.i64.min ≤ id ∧ id ≤ IntKind.i64.max) (h1 : IntKind.i64.min ≤ n ∧ n ≤ IntKind.i64.max) (v2 : Value) (ys : List AcY) (h2 : slcR 15 acR R [v2] ys) :
    Tri Tryz.prog 4 [.int .i64 id, .int .i64 n, v2] R [] (fun v R' L' => v = .bool true) := by
  obtain ⟨hf, hbd⟩ := acts_in h2
  obtain ⟨acts, hacts⟩ : ∃ acts, acts = ys.map acOf := ⟨_, rfl⟩
  rw [← hacts] at hf hbd
  obtain ⟨q, cap, rfl, hq1, hq2⟩ := hf.shape
  refine tri_of Tryz.func4 rfl Tryz.ntmps4 rfl (fun σ F Q hret hend hpan => ?_)
  try simp only [cA, nA]
  refine cj_seq fun K1 hK1 => cj_region ?_
  refine Ps ?_
  refine rj_nil (hK1 _ _ _ (cj_seq fun K2 hK2 => cj_seq fun K3 hK3 => cj_region ?_))
  refine Ra Tryz.call7 (awake_t) ?_
  rintro r R1 L' hR1 ⟨rfl, rfl⟩
  try simp only [cA, nA]
  refine Pa (y_not rfl) ?_
  refine rj_nil (hK3 _ _ _ (cj_cond_f rfl (cj_skip (hK2 _ _ _ (cj_seq fun K4 hK4 => cj_seq fun K5 hK5 => cj_region ?_)))))
  refine Pm ?_
  refine Pa (y_lss rfl rfl) ?_
  refine Pm ?_
  refine rj_part 27 rfl (fun hg27 => ?_) (fun hg27 => ?_)
  try simp only [dT, dF, nT, nF, tF, fT] at hg27
  refine Pk ?_
  refine Pk ?_
  refine Pa (y_pick_t rfl rfl) ?_
  refine Pm ?_
  refine Pk ?_
  refine Pk ?_
  refine Pa (y_pick_t rfl rfl) ?_
  refine Pm ?_
  refine Pk ?_
  refine Pk ?_
  refine Pk ?_
  refine Pa (y_pick_t rfl rfl) ?_
  refine Pm ?_
  refine Pk ?_
  refine Pk ?_
  refine Pk ?_
  refine Pa (y_pick_t rfl rfl) ?_
  refine rj_nil (hK5 _ _ _ ?_)
  refine cj_env (eL 0 rfl (eL 1 rfl (eL 2 rfl (eL 44 rfl eN)))) ?_
  refine cj_cond_t rfl (cj_seq fun K6 hK6 => cj_region ?_)
  refine Ps ?_
  refine rj_nil (hK6 _ _ _ (cj_ret (hret _ _ _ ?_)))
  refine Ea Tryz.results4 (.cons (rv_tmp rfl) .nil) [] (by first | exact Hp.le_trans hR13 hR4 | exact hR1 | exact Hp.le_trans hR1 hR2 | assumption) ?_
  exact rfl
  have f1 : ¬ n < 1 := by simpa using hg27
  refine Pb (y_move rfl) ?_
  refine Pb (y_gtr rfl rfl) ?_
  refine Pa (y_pick_f rfl rfl) ?_
  refine Pm ?_
  refine rj_part 31 rfl (fun hg31 => ?_) (fun hg31 => ?_)
  try simp only [dT, dF, nT, nF, tF, fT] at hg31
  refine Pk ?_
  refine Pk ?_
  refine Pa (y_pick_t rfl rfl) ?_
  refine Pm ?_
  refine Pk ?_
  refine Pk ?_
  refine Pk ?_
  refine Pa (y_pick_t rfl rfl) ?_
  refine Pm ?_
  refine Pk ?_
  refine Pk ?_
  refine Pk ?_
  refine Pa (y_pick_t rfl rfl) ?_
  refine rj_nil (hK5 _ _ _ ?_)
  refine cj_env (eL 0 rfl (eL 1 rfl (eL 2 rfl (eL 44 rfl eN)))) ?_
  refine cj_cond_t rfl (cj_seq fun K7 hK7 => cj_region ?_)
  refine Ps ?_
  refine rj_nil (hK7 _ _ _ (cj_ret (hret _ _ _ ?_)))
  refine Ea Tryz.results4 (.cons (rv_tmp rfl) .nil) [] (by first | exact Hp.le_trans hR13 hR4 | exact hR1 | exact Hp.le_trans hR1 hR2 | assumption) ?_
  exact rfl
  first|(have f2 : ¬ n > 9 := by simpa using hg31)|skip
  refine Pb (y_move rfl) ?_
  refine Pb (y_lss rfl rfl) ?_
  refine Pa (y_pick_f rfl rfl) ?_
  refine Pm ?_
  refine rj_part 35 rfl (fun hg35 => ?_) (fun hg35 => ?_)
  try simp only [dT, dF, nT, nF, tF, fT] at hg35
  refine Pk ?_
  refine Pk ?_
  refine Pk ?_
  refine Pa (y_pick_t rfl rfl) ?_
  refine Pm ?_
  refine Pk ?_
  refine Pk ?_
  refine Pk ?_
  refine Pa (y_pick_t rfl rfl) ?_
  refine rj_nil (hK5 _ _ _ (cj_cond_t rfl (cj_seq fun K8 hK8 => cj_region ?_)))
  refine Ps ?_
  refine rj_nil (hK8 _ _ _ (cj_ret (hret _ _ _ ?_)))
  refine Ea Tryz.results4 (.cons (rv_tmp rfl) .nil) [] (by first | exact Hp.le_trans hR13 hR4 | exact hR1 | exact Hp.le_trans hR1 hR2 | assumption) ?_
  exact rfl
  first|(have f3 : ¬ id < 0 := by simpa using hg35)|skip
  refine Pb (y_move rfl) ?_
  refine Pb (y_move rfl) ?_
  refine Pb (y_geq rfl rfl) ?_
  refine Pa (y_pick_f rfl rfl) ?_
  refine Pm ?_
  refine rj_part 40 rfl (fun hg40 => ?_) (fun hg40 => ?_)
  try simp only [dT, dF, nT, nF, tF, fT] at hg40
  refine Pk ?_
  refine Pk ?_
  refine Pk ?_
  refine Pa (y_pick_t rfl rfl) ?_
  refine rj_nil (hK5 _ _ _ ?_)
  refine cj_env (eL 0 rfl (eL 1 rfl (eL 2 rfl (eL 44 rfl eN)))) ?_
  refine cj_cond_t rfl (cj_seq fun K9 hK9 => cj_region ?_)
  refine Ps ?_
  refine rj_nil (hK9 _ _ _ (cj_ret (hret _ _ _ ?_)))
  refine Ea Tryz.results4 (.cons (rv_tmp rfl) .nil) [] (by first | exact Hp.le_trans hR13 hR4 | exact hR1 | exact Hp.le_trans hR1 hR2 | assumption) ?_
  exact rfl
  first|(have f4 : ¬ id ≥ n := by simpa using hg40)|skip
  refine Pb (y_move rfl) ?_
  refine rj_call (wn1 rfl rfl rfl rfl) rfl Tryz.call15 rfl (small9_t _ acts (hf.mono hR1) 40) sp_ (fun _ _ _ _ h => h.elim) ?_
  rintro x R2 L' hR2 ⟨⟨s, rfl, hs⟩, rfl⟩
  try simp only [cA, nA]
  refine Pb (y_not rfl) ?_
  refine Pa (y_pick_f rfl rfl) ?_
  refine rj_nil (hK5 _ _ _ ?_)
  refine cj_cond rfl (fun hc44 => ?_) (fun hc44 => ?_)
  try simp only [dT, dF, nT, nF, tF, fT] at hc44
  refine cj_seq fun K11 hK11 => cj_region ?_
  refine Ps ?_
  refine rj_nil (hK11 _ _ _ (cj_ret (hret _ _ _ ?_)))
  refine Ea Tryz.results4 (.cons (rv_tmp rfl) .nil) [] (by first | exact Hp.le_trans hR13 hR4 | exact hR1 | exact Hp.le_trans hR1 hR2 | assumption) ?_
  exact rfl
  obtain ⟨hlen, hsm⟩ := hs (by simpa using hc44)
  have hR12 := Hp.le_trans hR1 hR2
  have hidn : (0 ≤ id ∧ id < n) ∧ (1 ≤ n ∧ n ≤ 9) := by omega
  obtain ⟨idn, rfl⟩ : ∃ k : Nat, id = (k : Int) := ⟨id.toNat, by omega⟩
  obtain ⟨nn, rfl⟩ : ∃ k : Nat, n = (k : Int) := ⟨n.toNat, by omega⟩
  have hin : idn < nn ∧ nn ≤ 9 := by omega
  refine cj_skip (hK4 _ _ _ (cj_seq fun K12 hK12 => cj_region ?_))
  refine Pm ?_
  refine Pm ?_
  refine Ra Tryz.call8 (lnStart_t idn nn hin) ?_
  rintro r R3 L' hR3 ⟨bp, b, v, w, rfl, hv, hw, rfl⟩
  have hR13 := Hp.le_trans hR12 hR3
  try simp only [cA, nA]
  refine Pm ?_
  refine Pa (y_extract rfl rfl) ?_
  refine Pa (y_extract rfl rfl) ?_
  refine Ps ?_
  refine Ps ?_
  refine rj_nil (hK12 _ _ _ (cj_seq fun K13 hK13 => cj_seq fun K14 hK14 => cj_region ?_))
  refine Pm ?_
  refine Pa (y_not rfl) ?_
  refine rj_nil (hK14 _ _ _ (cj_cond_f rfl (cj_skip (hK13 _ _ _ (cj_seq fun K15 hK15 => cj_region ?_)))))
  refine rj_makeMap (ik := .u64) (wn0 rfl) rfl (fun bm => ?_)
  refine Ps ?_
  refine rj_nil (hK15 _ _ _ (cj_seq fun K16 hK16 => cj_region ?_))
  refine rj_turn (A := mapF bm .u64 (fun _ => none) 0) (B := mapF bm .u64 (knF (fun _ => none)) 0) fd_ (fun h hh => hh) ?_
  refine Ps ?_
  refine rj_nil (hK16 _ _ _ (cj_seq fun K17 hK17 => cj_seq fun K18 hK18 => cj_region ?_))
  refine Pm ?_
  first | refine Pa (y_len_sl Tryz.underlying50 rfl) ?_ | refine Pa (y_len_slc Tryz.underlying50 rfl fd_) ?_
  refine Pm ?_
  refine rj_nil (hK18 _ _ _ (cj_block ?_))
  refine cj_env (E' := (fun (x1 : (Nat × ND × NV × RW × DK) × (Kn × Nat) × Hp) => [(7, .pointer (some ⟨bp, 0, none⟩)), (9, .map (some bm)), (10, .int .u64 x1.1.2.1.commit), (54, .slice q acts.length cap), (55, .int .i64 (acts.length : Int)), (56, .int .i64 (x1.1.1 : Int))]) ((0, ND.start idn nn LG.new, v, w, DK.new), ((fun _ => none), 0), R3)) (eC rfl (eC rfl (eC rfl (eC rfl (eC rfl (eC rfl eN)))))) ?_
  refine cj_sub (M := (fun (x1 : (Nat × ND × NV × RW × DK) × (Kn × Nat) × Hp) => lnB bp b.d b.x x1.1.2.2.2.1 x1.1.2.1 :: ndB b x1.1.2.2.1 x1.1.2.1 :: lgN b x1.1.2.2.1 x1.1.2.1 :: dkB b.d x1.1.2.2.1.u x1.1.2.2.2.2 :: dkS x1.1.2.2.1.u x1.1.2.2.2.2 :: prA x1.1.2.2.1 x1.1.2.1 :: mpA x1.1.2.2.1.vm x1.1.2.1.votes :: mapF bm .u64 (knF x1.2.1.1) x1.2.1.2 :: F) ((0, ND.start idn nn LG.new, v, w, DK.new), ((fun _ => none), 0), R3)) sb_ ?_
  refine cj_loop (fun (x1 : (Nat × ND × NV × RW × DK) × (Kn × Nat) × Hp) => [(7, .pointer (some ⟨bp, 0, none⟩)), (9, .map (some bm)), (10, .int .u64 x1.1.2.1.commit), (54, .slice q acts.length cap), (55, .int .i64 (acts.length : Int)), (56, .int .i64 (x1.1.1 : Int))]) (fun (x1 : (Nat × ND × NV × RW × DK) × (Kn × Nat) × Hp) => x1.2.2) (fun (x1 : (Nat × ND × NV × RW × DK) × (Kn × Nat) × Hp) => lnB bp b.d b.x x1.1.2.2.2.1 x1.1.2.1 :: ndB b x1.1.2.2.1 x1.1.2.1 :: lgN b x1.1.2.2.1 x1.1.2.1 :: dkB b.d x1.1.2.2.1.u x1.1.2.2.2.2 :: dkS x1.1.2.2.1.u x1.1.2.2.2.2 :: prA x1.1.2.2.1 x1.1.2.1 :: mpA x1.1.2.2.1.vm x1.1.2.1.votes :: mapF bm .u64 (knF x1.2.1.1) x1.2.1.2 :: F) (fun (x1 : (Nat × ND × NV × RW × DK) × (Kn × Nat) × Hp) => x1.1.1 ≤ acts.length ∧ LIn (4294967400 * (x1.1.1 : Int)) (4294967400 * (x1.1.1 : Int)) (100 * x1.1.1) x1.1.2.1 ∧ x1.1.2.1.out = [] ∧ NOk x1.2.2 x1.1.2.2.1 x1.1.2.1 ∧ RNOk x1.2.2 x1.1.2.2.2.1 x1.1.2.1 ∧ LD (17000000 + 300000 * x1.1.1) x1.1.2.1.g x1.1.2.2.2.2 ∧ R3.le x1.2.2 ∧ KI x1.2.1.1 x1.1.2.1) (fun (x1 : (Nat × ND × NV × RW × DK) × (Kn × Nat) × Hp) => acts.length - x1.1.1) ((0, ND.start idn nn LG.new, v, w, DK.new), ((fun _ => none), 0), R3) (⟨Nat.zero_le _, by simpa using LIn.start0 hin, rfl, hv, hw, LD.mono2 LD.new (by omega), Hp.le_refl _, KI.none _⟩) ?_
  rintro ⟨⟨i, y, v4, w4, D4⟩, ⟨kn, km⟩, R4⟩ ⟨hi, hyin, hyo, hyv, hyw, hyD, hR4, hki⟩
  try dsimp only
  dsimp only at hi hyin hyo hyv hyw hyD hR4 hki
  refine cj_seq fun K19 hK19 => cj_region ?_
  refine Pa (y_lss rfl rfl) ?_
  refine rj_nil (hK19 _ _ _ (cj_seq fun K20 hK20 => ?_))
  refine cj_cond rfl (fun hc57 => ?_) (fun hc57 => ?_)
  try simp only [dT, dF, nT, nF, tF, fT] at hc57
  refine cj_skip (hK20 _ _ _ (cj_seq fun K22 hK22 => cj_block (cj_seq fun K23 hK23 => ?_)))
  have hi2 : i < acts.length := by (try simp at hc57); omega
  obtain ⟨a, ha⟩ : ∃ x, acts[i]? = some x := ⟨_, List.getElem?_eq_getElem hi2⟩
  have hsa := hsm a (List.mem_of_getElem? ha)
  have hba := hbd a (List.mem_of_getElem? ha)
  obtain ⟨be, oe, ce, cse, hee, ⟨ve, rfl, hve⟩, _, hcell⟩ := (hf.mono (Hp.le_trans hR13 hR4)).at ha
  obtain ⟨rfl, rfl⟩ : q = some ⟨be, oe, none⟩ ∧ cap = ce := by cases hee; exact ⟨rfl, rfl⟩
  have hveo := hve.one
  have hBB : BB (4294967400 * (i : Int) + 4294967400) (4294967400 * (i : Int) + 4294967400) (100 * i + 100) := by unfold BB; omega
  refine cj_region ?_
  first | refine Pa (y_indexAddr Tryz.underlying50 Tryz.sizeOf54 rfl rfl om_) ?_ | refine Pa (y_index_slc Tryz.underlying50 Tryz.sizeOf54 rfl rfl fd_ om_) ?_
  refine Pa ((y_loads_ro m54 (vs := acC a ve) rfl rfl (fun j u hj => by rw [show ((i : Nat) : Int).toNat = i by simp]; exact hcell j u hj))) ?_
  refine rj_alloc (wn0 rfl) rfl Tryz.zeroValue54 rfl (fun b12 => ?_)
  refine Sm (vs := acC a ve) m54 (acC_one hveo) ?_
  refine rj_nil (hK23 _ _ _ ?_)
  refine cj_env (eL 7 rfl (eL 9 rfl (eL 10 rfl (eL 12 rfl (eL 54 rfl (eL 55 rfl (eL 56 rfl eN))))))) ?_
  refine cj_seq fun K24 hK24 => cj_seq fun K25 hK25 => cj_region ?_
  refine Pa (Ga Tryz.underlying54 Tryz.sizeOf3) ?_
  first | refine Pa (La o3) ?_ | refine Pa (Ls o3) ?_
  refine Pa (y_gtr rfl rfl) ?_
  refine rj_nil (hK25 _ _ _ ?_)
  refine cj_cond rfl (fun hc62 => ?_) (fun hc62 => ?_)
  try simp only [dT, dF, nT, nF, tF, fT] at hc62
  refine cj_exit (hK22 _ _ _ (cj_region ?_))
  first | refine Pa (y_add64 rfl rfl om_) ?_ | refine Pa (y_add rfl rfl) ?_
  refine Pm ?_
  refine rj_nil ?_
  refine ej_on (q' := roundK _ _ _ _ _ _ _) rfl ?_
  refine ej_round (((i + 1, y, v4, w4, D4), (kn, km), R4)) (⟨by dsimp only; omega, hyin.mono (by dsimp only; omega) (by dsimp only; omega) (by dsimp only; omega), hyo, hyv, hyw, LD.mono2 hyD (by dsimp only; omega), hR4, hki⟩) (by dsimp only; omega) (eC rfl (eC rfl (eC rfl (eC rfl (eC rfl (eC rfl eN)))))) rfl sb_
  try simp only [dT, dF, nT, nF, tF, fT] at hc62
  refine cj_skip (hK24 _ _ _ (cj_seq fun K27 hK27 => cj_seq fun K28 hK28 => cj_region ?_))
  refine Pm ?_
  refine Pa ((Lm (vs := acC a ve) m54)) ?_
  refine Ra Tryz.call16 (do_t bp b v4 w4 y D4 (17000000 + 300000 * i) a ve hyin hBB hyo hyv hyw hyD (by omega) hsa hba hve) ?_
  rintro r R9 L' hR9 ⟨vl9, y9, v9, w9, D9, rfl, hvl9, hLT9, hyo9, hyv9, hyw9, hyD9, rfl⟩
  have hki9 := hki.next hLT9.tr
  have hcom := hLT9.tr.com
  have hn9 : NIn 0 y9 := hLT9.inn.nin0 hBB hyo9
  have hg9 := hn9.g (by omega)
  have hb9 := hLT9.inn.base
  have hc9 := hLT9.inn.commit
  have hl9 := hLT9.inn.last
  try simp only [cA, nA]
  refine Pm ?_
  refine Pa (y_extract rfl rfl) ?_
  refine Pa (y_extract rfl rfl) ?_
  refine Ps ?_
  refine Ps ?_
  refine rj_nil (hK28 _ _ _ (cj_seq fun K29 hK29 => cj_region ?_))
  refine Pm ?_
  refine Pa (y_not rfl) ?_
  refine rj_nil (hK29 _ _ _ (cj_cond_f rfl (cj_skip (hK27 _ _ _ (cj_seq fun K30 hK30 => cj_seq fun K31 hK31 => cj_region ?_)))))
  refine Pm ?_
  refine Pa (y_nilCheck rfl) ?_
  refine Pa (Ga Tryz.underlying39 Tryz.sizeOf30) ?_
  first | refine Pa (La o30) ?_ | refine Pa (Ls o30) ?_
  refine Pa (Ca Tryz.call17 (ndCommit_q b v9 y9)) ?_
  refine Pm ?_
  refine Pa ((Yld.to (u := .bool false) (y_lss rfl rfl) (by rw [decide_eq_false (by omega)]))) ?_
  refine rj_nil (hK31 _ _ _ ?_)
  refine cj_env (eL 7 rfl (eL 9 rfl (eL 54 rfl (eL 55 rfl (eL 56 rfl (eL 77 rfl eN)))))) ?_
  refine cj_cond_f rfl (cj_skip (hK30 _ _ _ (cj_seq fun K32 hK32 => cj_region ?_)))
  refine Pm ?_
  refine Pa (y_nilCheck rfl) ?_
  refine Pa (Ga Tryz.underlying39 Tryz.sizeOf30) ?_
  first | refine Pa (La o30) ?_ | refine Pa (Ls o30) ?_
  refine Pa (Ca Tryz.call12 (ndLog_q b v9 y9)) ?_
  refine Pa (Ca Tryz.call18 (lgBase_q b.l (some ⟨b.d, 0, none⟩) v9.va y9.g)) ?_
  refine Pm ?_
  refine Pa (y_extract rfl rfl) ?_
  refine Pa (y_extract rfl rfl) ?_
  refine Pa (y_extract rfl rfl) ?_
  refine Ps ?_
  refine Ps ?_
  refine Ps ?_
  refine rj_nil (hK32 _ _ _ (cj_seq fun K33 hK33 => cj_seq fun K34 hK34 => cj_region ?_))
  refine Pm ?_
  refine Pa ((y_addu rfl rfl (by omega))) ?_
  refine Ps ?_
  refine rj_nil (hK34 _ _ _ (cj_block ?_))
  refine cj_env (E' := (fun (x2 : Int × Kn × Nat) => [(7, .pointer (some ⟨bp, 0, none⟩)), (9, .map (some bm)), (54, .slice (some ⟨be, oe, none⟩) acts.length cap), (55, .int .i64 (acts.length : Int)), (56, .int .i64 (i : Int)), (18, .int .u64 x2.1)]) (y9.g.base + 1, kn, km)) (eC rfl (eC rfl (eC rfl (eC rfl (eC rfl (eC rfl eN)))))) ?_
  refine cj_sub (M := (fun (x2 : Int × Kn × Nat) => lnB bp b.d b.x w9 y9 :: ndB b v9 y9 :: lgN b v9 y9 :: dkB b.d v9.u D9 :: dkS v9.u D9 :: prA v9 y9 :: mpA v9.vm y9.votes :: mapF bm .u64 (knF x2.2.1) x2.2.2 :: F) (y9.g.base + 1, kn, km)) sb_ ?_
  refine cj_loop (fun (x2 : Int × Kn × Nat) => [(7, .pointer (some ⟨bp, 0, none⟩)), (9, .map (some bm)), (54, .slice (some ⟨be, oe, none⟩) acts.length cap), (55, .int .i64 (acts.length : Int)), (56, .int .i64 (i : Int)), (18, .int .u64 x2.1)]) (fun (x2 : Int × Kn × Nat) => R9) (fun (x2 : Int × Kn × Nat) => lnB bp b.d b.x w9 y9 :: ndB b v9 y9 :: lgN b v9 y9 :: dkB b.d v9.u D9 :: dkS v9.u D9 :: prA v9 y9 :: mpA v9.vm y9.votes :: mapF bm .u64 (knF x2.2.1) x2.2.2 :: F) (fun (x2 : Int × Kn × Nat) => y9.g.base < x2.1 ∧ x2.1 ≤ y9.commit + 1 ∧ KI x2.2.1 y9) (fun (x2 : Int × Kn × Nat) => (y9.commit + 1 - x2.1).toNat) (y9.g.base + 1, kn, km) (⟨by dsimp only; omega, by dsimp only; omega, hki9⟩) ?_
  rintro ⟨j, kn2, km2⟩ ⟨hj1, hj2, hki2⟩
  try dsimp only
  dsimp only at hj1 hj2 hki2
  refine cj_seq fun K35 hK35 => cj_seq fun K36 hK36 => cj_region ?_
  refine Pm ?_
  refine Pm ?_
  refine Pa (y_nilCheck rfl) ?_
  refine Pa (Ga Tryz.underlying39 Tryz.sizeOf30) ?_
  first | refine Pa (La o30) ?_ | refine Pa (Ls o30) ?_
  refine Pa (Ca Tryz.call17 (ndCommit_q b v9 y9)) ?_
  refine Pa (y_leq rfl rfl) ?_
  refine Pm ?_
  refine rj_part 97 rfl (fun hg97 => ?_) (fun hg97 => ?_)
  have g1 : j ≤ y9.commit := by simpa using hg97
  obtain ⟨e, he⟩ := at_some (g := y9.g) (i := j) (by omega)
  refine Pb (y_move rfl) ?_
  refine Pb (y_move rfl) ?_
  refine Pb (y_nilCheck rfl) ?_
  refine Pb (Ga Tryz.underlying39 Tryz.sizeOf30) ?_
  first | refine Pb (La o30) ?_ | refine Pb (Ls o30) ?_
  refine Pb (Ca Tryz.call12 (ndLog_q b v9 y9)) ?_
  refine Pb (Ca Tryz.call19 (lgLast_q b.l (some ⟨b.d, 0, none⟩) v9.va y9.g hg9 hyv9.va)) ?_
  refine Pb ((Yld.to (u := .bool true) (y_leq rfl rfl) (by rw [decide_eq_true (by omega)]))) ?_
  refine Pa (y_pick_t rfl rfl) ?_
  refine rj_nil (hK36 _ _ _ ?_)
  refine cj_env (eL 7 rfl (eL 9 rfl (eL 18 rfl (eL 54 rfl (eL 55 rfl (eL 56 rfl (eL 106 rfl eN))))))) ?_
  refine cj_cond_t rfl (cj_skip (hK35 _ _ _ (cj_seq fun K37 hK37 => cj_block (cj_seq fun K38 hK38 => cj_region ?_))))
  refine Pm ?_
  refine Pa (y_nilCheck rfl) ?_
  refine Pa (Ga Tryz.underlying39 Tryz.sizeOf30) ?_
  first | refine Pa (La o30) ?_ | refine Pa (Ls o30) ?_
  refine Pa (Ca Tryz.call12 (ndLog_q b v9 y9)) ?_
  refine Pm ?_
  refine Pa (Ca Tryz.call20 ((lgAt_q b.l (some ⟨b.d, 0, none⟩) v9.va y9.g hg9 hyv9.va j (by unfold u64B; omega)).eq2 (v' := tupOf [.agg ⟨entC e⟩, .bool true]) (by rw [he]; rfl))) ?_
  refine Pm ?_
  refine Pa (y_extract rfl rfl) ?_
  refine Pa (y_extract rfl rfl) ?_
  refine rj_alloc (wn0 rfl) rfl Tryz.zeroValue60 rfl (fun b19 => ?_)
  refine Sm (vs := entC e) m60 (entE.one (R := R9) (x := e) rfl) ?_
  refine Ps ?_
  refine rj_nil (hK38 _ _ _ (cj_seq fun K39 hK39 => cj_region ?_))
  obtain ⟨eo, ko, hko, hkk⟩ := kn_cases kn2 j
  refine Pm ?_
  refine Pm ?_
  refine Pa ((Yld.to (u := tupOf [.agg ⟨entC eo⟩, .bool ko]) (y_lookup Tryz.underlying52 Tryz.underlying31 Tryz.zeroValue60 rfl rfl fd_) (by rw [← hko]; rfl))) ?_
  refine Pm ?_
  refine Pa (y_extract rfl rfl) ?_
  refine Pa (y_extract rfl rfl) ?_
  refine rj_alloc (wn0 rfl) rfl Tryz.zeroValue60 rfl (fun b21 => ?_)
  refine Sm (vs := entC eo) m60 (entE.one (R := R9) (x := eo) rfl) ?_
  refine Ps ?_
  refine rj_nil (hK39 _ _ _ ?_)
  refine cj_env (eL 7 rfl (eL 9 rfl (eL 18 rfl (eL 19 rfl (eL 20 rfl (eL 21 rfl (eL 22 rfl (eL 54 rfl (eL 55 rfl (eL 56 rfl eN)))))))))) ?_
  refine cj_seq fun K40 hK40 => cj_seq fun K41 hK41 => cj_region ?_
  refine Pm ?_
  refine Pa (y_not rfl) ?_
  refine Pm ?_
  refine Pb (y_move rfl) ?_
  refine Pb (y_move rfl) ?_
  refine rj_part 129 rfl (fun hg129 => ?_) (fun hg129 => ?_)
  have heo : eo = e := by (have h := hki2.at_ j eo (hkk hg129) (by omega); rw [he] at h; cases h; rfl)
  refine Pb ((Lm (vs := entC eo) m60)) ?_
  refine Pb ((Lm (vs := entC e) m60)) ?_
  refine Pb ((Yld.to (u := .bool false) (y_stneq (by kernel_rfl) rfl rfl (fun w => ent_neq eo e w)) (by rw [heo]; simp))) ?_
  refine Pb (y_pick_t rfl rfl) ?_
  refine Pa (y_pick_f rfl rfl) ?_
  refine rj_nil (hK41 _ _ _ (cj_cond_f rfl (cj_skip (hK40 _ _ _ (cj_region ?_)))))
  refine Pm ?_
  refine Pm ?_
  refine Pa ((Lm (vs := entC e) m60)) ?_
  refine rj_mapUpdate Tryz.underlying52 Tryz.underlying31 (wn0 rfl) rfl rfl rfl fd_ ?_
  rw [knF_set]
  refine rj_nil (hK37 _ _ _ (cj_region ?_))
  refine Pm ?_
  first | refine Pa (y_addu rfl rfl om_) ?_ | refine Pa (y_add rfl rfl) ?_
  refine Ps ?_
  refine rj_nil ?_
  refine ej_on (q' := roundK _ _ _ _ _ _ _) rfl ?_
  refine ej_round ((j + 1, kset kn2 j e, _)) (⟨by dsimp only; omega, by dsimp only; omega, hki2.set (by omega) he⟩) (by dsimp only; omega) (eC rfl (eC rfl (eC rfl (eC rfl (eC rfl (eC rfl eN)))))) rfl sb_
  try simp only [dT, dF, nT, nF, tF, fT] at hg129
  refine Pk ?_
  refine Pk ?_
  refine Pk ?_
  refine Pb (y_pick_f rfl rfl) ?_
  refine Pa (y_pick_f rfl rfl) ?_
  refine rj_nil (hK41 _ _ _ ?_)
  refine cj_env (eL 7 rfl (eL 9 rfl (eL 18 rfl (eL 19 rfl (eL 54 rfl (eL 55 rfl (eL 56 rfl (eL 134 rfl eN)))))))) ?_
  refine cj_cond_f rfl (cj_skip (hK40 _ _ _ (cj_region ?_)))
  refine Pm ?_
  refine Pm ?_
  refine Pa ((Lm (vs := entC e) m60)) ?_
  refine rj_mapUpdate Tryz.underlying52 Tryz.underlying31 (wn0 rfl) rfl rfl rfl fd_ ?_
  rw [knF_set]
  refine rj_nil (hK37 _ _ _ (cj_region ?_))
  refine Pm ?_
  first | refine Pa (y_addu rfl rfl om_) ?_ | refine Pa (y_add rfl rfl) ?_
  refine Ps ?_
  refine rj_nil ?_
  refine ej_on (q' := roundK _ _ _ _ _ _ _) rfl ?_
  refine ej_round ((j + 1, kset kn2 j e, _)) (⟨by dsimp only; omega, by dsimp only; omega, hki2.set (by omega) he⟩) (by dsimp only; omega) (eC rfl (eC rfl (eC rfl (eC rfl (eC rfl (eC rfl eN)))))) rfl sb_
  have g1 : ¬ j ≤ y9.commit := by simpa using hg97
  refine Pk ?_
  refine Pk ?_
  refine Pk ?_
  refine Pk ?_
  refine Pk ?_
  refine Pk ?_
  refine Pk ?_
  refine Pk ?_
  refine Pa (y_pick_f rfl rfl) ?_
  refine rj_nil (hK36 _ _ _ (cj_cond_f rfl (cj_exit (hK33 _ _ _ (cj_region ?_)))))
  refine Pm ?_
  refine Pa (y_nilCheck rfl) ?_
  refine Pa (Ga Tryz.underlying39 Tryz.sizeOf30) ?_
  first | refine Pa (La o30) ?_ | refine Pa (Ls o30) ?_
  refine Pa (Ca Tryz.call17 (ndCommit_q b v9 y9)) ?_
  refine Ps ?_
  refine rj_nil (hK22 _ _ _ ?_)
  refine cj_env (eL 7 rfl (eL 9 rfl (eL 10 rfl (eL 54 rfl (eL 55 rfl (eL 56 rfl eN)))))) ?_
  refine cj_region ?_
  first | refine Pa (y_add64 rfl rfl om_) ?_ | refine Pa (y_add rfl rfl) ?_
  refine Pm ?_
  refine rj_nil ?_
  refine ej_on (q' := roundK _ _ _ _ _ _ _) rfl ?_
  refine ej_round (((i + 1, y9, v9, w9, D9), (kn2, km2), R9)) (⟨by dsimp only; omega, hLT9.inn.mono (by dsimp only; omega) (by dsimp only; omega) (by dsimp only; omega), hyo9, hyv9, hyw9, LD.mono2 hyD9 (by dsimp only; omega), Hp.le_trans hR4 hR9, hki2⟩) (by dsimp only; omega) (eC rfl (eC rfl (eC rfl (eC rfl (eC rfl (eC rfl eN)))))) rfl sb_
  try simp only [dT, dF, nT, nF, tF, fT] at hc57
  refine cj_exit (hK17 _ _ _ (cj_seq fun K42 hK42 => cj_region ?_))
  have hg4 := (hyin.nin0 (by unfold BB; omega) hyo).g (by omega)
  have hc4 := hyin.commit
  refine Pm ?_
  refine Pm ?_
  refine Pa (y_nilCheck rfl) ?_
  refine Pa (Ga Tryz.underlying39 Tryz.sizeOf30) ?_
  first | refine Pa (La o30) ?_ | refine Pa (Ls o30) ?_
  refine Pa (Ca Tryz.call12 (ndLog_q b v4 y)) ?_
  refine Pa (Ca Tryz.call19 (lgLast_q b.l (some ⟨b.d, 0, none⟩) v4.va y.g hg4 hyv.va)) ?_
  refine Pa ((Yld.to (u := .bool true) (y_leq rfl rfl) (by rw [decide_eq_true (by omega)]))) ?_
  refine Ps ?_
  refine rj_nil (hK42 _ _ _ (cj_ret (hret _ _ _ ?_)))
  refine Ea Tryz.results4 (.cons (rv_tmp rfl) .nil) [] (by first | exact Hp.le_trans hR13 hR4 | exact hR1 | exact Hp.le_trans hR1 hR2 | assumption) ?_
  exact rfl
end V
end Go.Proofs.YtjdbigplednihaaGreat
namespace Go.Proofs.YtjdbigplednihaaGreat
open Go.ChangeShapes Go.WideShapes Go.ChangeAt Go.RowKit
open V
set_option maxHeartbeats 1000000 in
set_option maxRecDepth 100000 in
theorem RaftKeeps_holds_lifted (os : Os) (started : os.Started) (H : Type) (enc : TypeId × Value → H) :
    ReturnsInHanded {} Tryz.checked os 4 .any (Rows.raftKeepsSpec.pre6 enc Tryz.prog Tryz.f4 Rows.raftKeepsRow.domain false) (Rows.raftKeepsSpec.post enc Tryz.prog Tryz.f4 false true false false) := by
  refine returnsInHanded_of_change (C := Tryz.checked) own started (by kernel_rfl) Tryz.func4
    (ChangeSpec.witness6 (enc := enc) (C := Tryz.checked) false ⟨#[], #[.int .i64 0, .int .i64 0, .slice none 0 0], []⟩ 8 (by kernel_rfl) (by kernel_rfl) (by kernel_rfl) (by kernel_rfl)) ?_
  intro W base args ds gs before hval0 hW hcnd _
  have hval : ∀ (j : Nat) t v, Tryz.f4.params[j]? = some t → args[j]? = some v → Value.okWide Tryz.prog W .any base t v := hval0
  have hW' := hW
  obtain ⟨p, q, hA0, hV, rfl, hfz, hnd⟩ := hW
  have hA : DataW.TrodAll enc Tryz.prog W 0 (fun _ => true) true Tryz.f4.params.toList args.toList ds p := hA0
  rw [Tryz.params4] at hA hval
  obtain ⟨v0, vs0, d0, ds0, p0, q0, hargs, rfl, rfl, t0, r0⟩ := trodAll_cons hA
  obtain ⟨v1, vs1, d1, ds1, p1, q1, rfl, rfl, rfl, t1, r1⟩ := trodAll_cons r0
  obtain ⟨v2, vs2, d2, ds2, p2, q2, rfl, rfl, rfl, t2, r2⟩ := trodAll_cons r1
  obtain ⟨rfl, rfl, rfl⟩ := trodAll_nil r2
  obtain rfl : args = #[v0, v1, v2] := by cases args; simp_all
  obtain ⟨rfl, rfl⟩ := trodVars_none hV
  have lt0 : ∀ x ∈ p0, x.block < W.heap.size := by obtain ⟨m, hm⟩ := t0; exact DataW.trod_lt m _ _ _ hm
  obtain ⟨y0, h0⟩ : ∃ y, (intR .i64) (oldH W) v0.cells.toList y := by obtain ⟨m, hm⟩ := t0; exact (reads_int Tryz.underlying3) W m _ _ hm
  obtain ⟨n0, rfl⟩ := okWide_int Tryz.underlying3 (hval 0 3 v0 rfl rfl)
  obtain ⟨e0, h0⟩ := h0
  obtain rfl : y0 = n0 := by have := e0; simp [Value.cells] at this; exact this.symm
  have lt1 : ∀ x ∈ p1, x.block < W.heap.size := by obtain ⟨m, hm⟩ := t1; exact DataW.trod_lt m _ _ _ hm
  obtain ⟨y1, h1⟩ : ∃ y, (intR .i64) (oldH W) v1.cells.toList y := by obtain ⟨m, hm⟩ := t1; exact (reads_int Tryz.underlying3) W m _ _ hm
  obtain ⟨n1, rfl⟩ := okWide_int Tryz.underlying3 (hval 1 3 v1 rfl rfl)
  obtain ⟨e1, h1⟩ := h1
  obtain rfl : y1 = n1 := by have := e1; simp [Value.cells] at this; exact this.symm
  have lt2 : ∀ x ∈ p2, x.block < W.heap.size := by obtain ⟨m, hm⟩ := t2; exact DataW.trod_lt m _ _ _ hm
  obtain ⟨y2, h2⟩ : ∃ y, (slcR 15 (pairR 1 (intR .i64) (pairR 1 (intR .i64) (pairR 10 (pairR 1 (intR .i64) (pairR 1 (intR .i64) (pairR 1 (intR .i64) (pairR 1 (intR .u64) (pairR 1 (intR .u64) (pairR 1 (intR .u64) (pairR 1 (intR .u64) (pairR 1 boolR (pairR 1 (slcR 2 (pairR 1 (intR .u64) strR)) strR))))))))) (pairR 1 boolR (pairR 1 (intR .u64) strR)))))) (oldH W) v2.cells.toList y := by obtain ⟨m, hm⟩ := t2; exact (reads_slc Tryz.underlying50 (by kernel_rfl) (by decide) (reads_struct Tryz.underlying54 (by kernel_rfl) (readsF_cons rfl (by kernel_rfl) (reads_int Tryz.underlying3) (readsF_cons rfl (by kernel_rfl) (reads_int Tryz.underlying3) (readsF_cons rfl (by kernel_rfl) (reads_struct Tryz.underlying48 (by kernel_rfl) (readsF_cons rfl (by kernel_rfl) (reads_int Tryz.underlying3) (readsF_cons rfl (by kernel_rfl) (reads_int Tryz.underlying3) (readsF_cons rfl (by kernel_rfl) (reads_int Tryz.underlying3) (readsF_cons rfl (by kernel_rfl) (reads_int Tryz.underlying31) (readsF_cons rfl (by kernel_rfl) (reads_int Tryz.underlying31) (readsF_cons rfl (by kernel_rfl) (reads_int Tryz.underlying31) (readsF_cons rfl (by kernel_rfl) (reads_int Tryz.underlying31) (readsF_cons rfl (by kernel_rfl) (reads_bool Tryz.underlying4) (readsF_cons rfl (by kernel_rfl) (reads_slc Tryz.underlying32 (by kernel_rfl) (by decide) (reads_struct Tryz.underlying60 (by kernel_rfl) (readsF_cons rfl (by kernel_rfl) (reads_int Tryz.underlying31) (readsF_one rfl (reads_str Tryz.underlying9))))) (readsF_one rfl (reads_str Tryz.underlying9)))))))))))) (readsF_cons rfl (by kernel_rfl) (reads_bool Tryz.underlying4) (readsF_cons rfl (by kernel_rfl) (reads_int Tryz.underlying31) (readsF_one rfl (reads_str Tryz.underlying9))))))))) W m _ _ hm
  obtain ⟨a2, len2, cap2, rfl⟩ := okWide_slice Tryz.underlying50 (hval 2 50 v2 rfl rfl)
  obtain ⟨v2, hv2⟩ : ∃ v, v = Value.slice a2 len2 cap2 := ⟨_, rfl⟩
  replace h2 : (slcR 15 (pairR 1 (intR .i64) (pairR 1 (intR .i64) (pairR 10 (pairR 1 (intR .i64) (pairR 1 (intR .i64) (pairR 1 (intR .i64) (pairR 1 (intR .u64) (pairR 1 (intR .u64) (pairR 1 (intR .u64) (pairR 1 (intR .u64) (pairR 1 boolR (pairR 1 (slcR 2 (pairR 1 (intR .u64) strR)) strR))))))))) (pairR 1 boolR (pairR 1 (intR .u64) strR)))))) (oldH W) [v2] y2 := by rw [hv2]; exact h2
  clear hA0 hval0
  subst hv2
  refine (law_calls (raftKeeps_t y0 y1 h0 h1 _ y2 h2)).mono fun e W' ⟨he, bel⟩ => ?_
  subst he
  exact ⟨_, rfl, _, _, _, [], _, [], hW', trodAll_mk1 (shut_bool Tryz.underlying4 _), (trodAll_cons_mk (Below.trod laidOut (by kernel_rfl) (of_decide_eq_true (by kernel_rfl)) t0 bel lt0) (trodAll_cons_mk (Below.trod laidOut (by kernel_rfl) (of_decide_eq_true (by kernel_rfl)) t1 bel lt1) (trodAll_cons_mk (Below.trod laidOut (by kernel_rfl) (of_decide_eq_true (by kernel_rfl)) t2 bel lt2) trodAll_mk0))), rfl, bel.frame _, fun h => by cases h⟩
theorem RaftKeeps_holds : Rows.RaftKeepsSaid :=
  OpenClaim.holds_of_wide 4 Tryz.f4 rfl rfl rfl rfl rfl rfl rfl ⟨rfl, rfl, rfl, rfl, rfl⟩ rfl rfl rfl rfl rfl (by kernel_rfl) Tryz.func4 (by kernel_rfl)
    (of_decide_eq_true (by kernel_rfl)) (by unfold Func.isWrapper; first | (rw [if_pos (by decide +kernel)]; kernel_rfl) | (rw [if_neg (by decide +kernel)]; exact ⟨rfl, rfl⟩))
    (fun os started H enc _ => RaftKeeps_holds_lifted os started H enc)
#print axioms RaftKeeps_holds
end Go.Proofs.YtjdbigplednihaaGreat
