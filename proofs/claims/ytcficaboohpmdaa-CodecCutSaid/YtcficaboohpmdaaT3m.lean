/- Tree: the node of steps, walked. -/
import Derived.Test.YtcficaboohpmdaaT3l
import Derived.Test.YtcficaboohpmdaaR0
set_option linter.unusedSimpArgs false
set_option linter.unusedVariables false
namespace Go.Proofs.Ytcficaboohpmdaa
open Go.RowKit
namespace V
set_option maxHeartbeats 4000000
theorem Sub.tailApp : ∀ (M F : List Asn), Sub (M ++ F) F
  | [], F => .refl F
  | A :: M, F => .drop (Sub.tailApp M F)
theorem blk_slc {b : Nat} {xs : List Value} {e : TypeId} {sz n : Nat} (hl : xs.length = n * sz) (hm : n ≤ maxLen) (h : Hp) (hb : blk b xs e h) : slc e sz (.slice (some ⟨b, 0, none⟩) n n) n xs h :=
  ⟨hl, .inr ⟨b, n, (0, 0), [], [], rfl, by simpa [blk, pts] using hb, fun o _ hh => by simp at hh, Nat.le_refl _, hm, by simp [hl]⟩⟩
/-! ### the open nodes, plain -/
def cntS : List (List Nd) → Nat
  | [] => 0
  | ks :: st => ks.length + 1 + cntS st
def stk (fs : List FrT) : List (List Nd) := fs.map fun f => f.2.1
structure TI (R : Hp) (i : Nat) (fs : List FrT) : Prop where
  kids : ∀ g ∈ fs, Kids R g.2.1 g.2.2
  ok : OkS (stk fs)
  cst : costS (stk fs) ≤ 40 + 340 * i
  cnt : cntS (stk fs) ≤ i + 1
section
variable {R R' : Hp} {i j : Nat}
theorem TI.mono {fs : List FrT} (h : TI R i fs) (hR : R.le R') (hi : i ≤ j) : TI R' j fs :=
  ⟨fun g hg => (h.kids g hg).mono hR, h.ok, by have := h.cst; omega, by have := h.cnt; omega⟩
theorem TI.start (v : Value) : TI R 0 [(v, [], [])] :=
  ⟨fun g hg => by simp at hg; subst hg; exact ⟨rfl, fun i x cs h _ => by simp at h⟩, fun ks hk x hx => by simp [stk] at hk; subst hk; simp at hx, by simp [stk, costS, costL], by simp [stk, cntS]⟩
theorem TI.len1 {f : FrT} {rest : List FrT} (h : TI R i (f :: rest)) : f.2.1.length ≤ i ∧ rest.length ≤ i := by
  have h1 := h.cnt
  have key : ∀ l : List FrT, l.length ≤ cntS (stk l) := by
    intro l
    induction l with
    | nil => simp
    | cons g l ih => simp only [stk, List.map_cons, cntS, List.length_cons] at ih ⊢; omega
  have h2 := key rest
  simp only [stk, List.map_cons, cntS] at h1 h2
  omega
theorem TI.tail {f : FrT} {rest : List FrT} (h : TI R i (f :: rest)) : TI R i rest :=
  ⟨fun g hg => h.kids g (by simp [hg]), fun ks hk => h.ok ks (by simp only [stk, List.map_cons, List.mem_cons] at hk ⊢; exact .inr hk), by have := h.cst; simp only [stk, List.map_cons, costS] at this ⊢; omega, by have := h.cnt; simp only [stk, List.map_cons, cntS] at this ⊢; omega⟩
theorem TI.push {v v' : Value} {ks : List Nd} {css : List (List Value)} {rest : List FrT} (h : TI R i ((v, ks, css) :: rest)) {x : Nd} {cx : List Value} (hx : RepN R x cx) (ho : OkN x) (hc : cost x ≤ 340) : TI R (i + 1) ((v', ks ++ [x], css ++ [cx]) :: rest) := by
  refine ⟨fun g hg => ?_, fun l hl y hy => ?_, ?_, ?_⟩
  · rcases List.mem_cons.1 hg with rfl | hg
    · exact (h.kids (v, ks, css) (by simp)).snoc hx
    · exact h.kids g (by simp [hg])
  · simp only [stk, List.map_cons, List.mem_cons] at hl
    rcases hl with rfl | hl
    · rcases List.mem_append.1 hy with hy | hy
      · exact h.ok ks (by simp [stk]) y hy
      · simp at hy; subst hy; exact ho
    · exact h.ok l (by simp only [stk, List.map_cons, List.mem_cons]; exact .inr hl) y hy
  · have := h.cst
    simp only [stk, List.map_cons, costS, costL_app, costL] at this ⊢; omega
  · have := h.cnt
    simp only [stk, List.map_cons, cntS, List.length_append, List.length_cons, List.length_nil] at this ⊢; omega
theorem TI.open {fs : List FrT} (h : TI R i fs) (v : Value) : TI R (i + 1) ((v, [], []) :: fs) := by
  refine ⟨fun g hg => ?_, fun l hl y hy => ?_, ?_, ?_⟩
  · rcases List.mem_cons.1 hg with rfl | hg
    · exact ⟨rfl, fun i x cs h _ => by simp at h⟩
    · exact h.kids g hg
  · simp only [stk, List.map_cons, List.mem_cons] at hl
    rcases hl with rfl | hl
    · simp at hy
    · exact h.ok l hl y hy
  · have := h.cst
    simp only [stk, List.map_cons, costS, costL] at this ⊢; omega
  · have := h.cnt
    simp only [stk, List.map_cons, cntS, List.length_nil] at this ⊢; omega
theorem TI.shut {f g g' : FrT} {rest : List FrT} (h : TI R i (f :: g :: rest)) (hR : R.le R') (e : g'.2.1 = g.2.1 ++ [Nd.mk 2 0 [] f.2.1]) (k : Kids R' g'.2.1 g'.2.2) : TI R' i (g' :: rest) := by
  refine ⟨fun q hq => ?_, fun l hl y hy => ?_, ?_, ?_⟩
  · rcases List.mem_cons.1 hq with rfl | hq
    · exact k
    · exact (h.kids q (by simp [hq])).mono hR
  · simp only [stk, List.map_cons, List.mem_cons] at hl
    rcases hl with rfl | hl
    · rw [e] at hy
      rcases List.mem_append.1 hy with hy | hy
      · exact h.ok g.2.1 (by simp [stk]) y hy
      · simp at hy; subst hy; exact .mk (by omega) (fun z hz => h.ok f.2.1 (by simp [stk]) z hz)
    · exact h.ok l (by simp only [stk, List.map_cons, List.mem_cons]; exact .inr (.inr hl)) y hy
  · have := h.cst
    simp only [stk, List.map_cons, costS, e, costL_app, costL, cost, List.length_nil] at this ⊢; omega
  · have := h.cnt
    simp only [stk, List.map_cons, cntS, e, List.length_append, List.length_cons, List.length_nil] at this ⊢; omega
theorem TI.last {v v' : Value} {ks : List Nd} {css : List (List Value)} {rest : List FrT} {k : Int} {n0 n : Nat} {s0 s : List UInt8} {l : List Nd} {c0 c1 : List Value} (h : TI R i ((v, ks ++ [.mk k n0 s0 l], css ++ [c0]) :: rest))
    (hn : n < 18446744073709551616) (hs : s.length ≤ 300) (hr : RepN R (.mk k n s l) c1) (hl : css.length = ks.length) : TI R (i + 1) ((v', ks ++ [.mk k n s l], css ++ [c1]) :: rest) := by
  refine ⟨fun g hg => ?_, fun l' hl' y hy => ?_, ?_, ?_⟩
  · rcases List.mem_cons.1 hg with rfl | hg
    · refine Kids.snoc ⟨hl, fun i x cs h1 h2 => ?_⟩ hr
      have hi := (List.getElem?_eq_some_iff.1 h1).1
      exact (h.kids (v, ks ++ [.mk k n0 s0 l], css ++ [c0]) (by simp)).2 i x cs (by simp only; rw [List.getElem?_append_left hi]; exact h1) (by simp only; rw [List.getElem?_append_left (by omega)]; exact h2)
    · exact h.kids g (by simp [hg])
  · simp only [stk, List.map_cons, List.mem_cons] at hl'
    rcases hl' with rfl | hl'
    · rcases List.mem_append.1 hy with hy | hy
      · exact h.ok (ks ++ [.mk k n0 s0 l]) (by simp [stk]) y (by simp [hy])
      · simp at hy; subst hy
        have := h.ok (ks ++ [.mk k n0 s0 l]) (by simp [stk]) (.mk k n0 s0 l) (by simp)
        cases this with | mk _ h2 => exact .mk hn h2
    · exact h.ok l' (by simp only [stk, List.map_cons, List.mem_cons]; exact .inr hl') y hy
  · have := h.cst
    simp only [stk, List.map_cons, costS, costL_app, costL, cost] at this ⊢; omega
  · have := h.cnt
    simp only [stk, List.map_cons, cntS, List.length_append, List.length_cons, List.length_nil] at this ⊢; omega
end
theorem Kids.split {R : Hp} {ks : List Nd} {css : List (List Value)} (k : Kids R ks css) (h : 0 < ks.length) : ∃ ks0 kk n s l css0 q cap, ks = ks0 ++ [Nd.mk kk n s l] ∧ css = css0 ++ [[.int .i64 kk, .int .u64 ((n : Nat) : Int), .string (str s), .slice q l.length cap]] ∧
    css0.length = ks0.length ∧ RepL R l q cap ∧ css0.flatten.length = ks0.length * 4 := by
  have h4 := k.flat
  rcases List.eq_nil_or_concat ks with rfl | ⟨ks0, y, rfl⟩
  · simp at h
  rcases List.eq_nil_or_concat css with rfl | ⟨css0, cy, rfl⟩
  · have := k.1; simp at this
  · have hl : css0.length = ks0.length := by have := k.1; simpa using this
    have hy := k.2 ks0.length y cy (by simp) (by rw [← hl]; simp)
    obtain ⟨kk, n, s, l, q, cap, rfl, rfl, _, hr⟩ := hy.inv
    refine ⟨ks0, kk, n, s, l, css0, q, cap, by simp, by simp, hl, hr, ?_⟩
    simp at h4; simp; omega
theorem set_last {css : List (List Value)} {n : Nat} (h : css.flatten.length = n * 4) (a b c d u : Value) : setNth (css ++ [[a, b, c, d]]).flatten (n * 4 + 1) u = (css ++ [[a, u, c, d]]).flatten ∧ setNth (css ++ [[a, b, c, d]]).flatten (n * 4 + 2) u = (css ++ [[a, b, u, d]]).flatten := by
  rw [setNth_eq, setNth_eq, ← h]
  simp only [List.flatten_append, List.flatten_cons, List.flatten_nil, List.append_nil]
  constructor
  · rw [List.set_append_right _ _ (by omega), Nat.add_sub_cancel_left]; rfl
  · rw [List.set_append_right _ _ (by omega), Nat.add_sub_cancel_left]; rfl
/-- steps as they came in -/
def StepsR (R : Hp) (v : Value) (l : List (Int × Int × List UInt8)) : Prop := ∃ q cap, v = .slice q l.length cap ∧ l.length ≤ cap ∧ cap ≤ maxLen ∧
  (l = [] ∨ ∃ b off, q = some ⟨b, off, none⟩ ∧ ∀ (i : Nat) (x : Int × Int × List UInt8), l[i]? = some x → (0 ≤ x.2.1 ∧ x.2.1 < 18446744073709551616) ∧ ∀ (j : Nat) (u : Value), [Value.int .i64 x.1, .int .u64 x.2.1, .string (str x.2.2)][j]? = some u → Hp.cell R ⟨b, off + i * 3 + j, none⟩ = some u)
theorem steps_of {R : Hp} {v : Value} {l : List (Int × Int × List UInt8)} (h : slcR 3 (pairR 1 (intR .i64) (pairR 1 (intR .u64) strR)) R [v] l) : StepsR R v l := by
  obtain ⟨q, cap, e, h1, h2, h3⟩ := h
  refine ⟨q, cap, by simpa using e, h1, h2, ?_⟩
  rcases h3 with h | ⟨b, off, hq, hz⟩
  · exact .inl h
  · refine .inr ⟨b, off, hq, fun i x hx => ?_⟩
    have hi := (List.getElem?_eq_some_iff.1 hx).1
    obtain ⟨c, hcl, hcc, e1, e2, e3, bd3⟩ := hz i hi
    have : l[i] = x := by rw [List.getElem?_eq_getElem hi] at hx; simpa using hx
    rw [this] at e1 e2 e3 bd3
    obtain ⟨e1, bd1⟩ := e1
    obtain ⟨e2, bd2⟩ := e2
    obtain ⟨what, n, s⟩ := x
    obtain rfl : c = [.int .i64 what, .int .u64 n, .string (str s)] := by match c, hcl with | [c0, c1, c2], _ => simp at e1 e2 e3; rw [e1, e2, e3]
    have bd4 : 0 ≤ n ∧ n ≤ 18446744073709551615 := by simpa [IntKind.min, IntKind.max, IntKind.signed, IntKind.bits] using bd2
    exact ⟨⟨bd4.1, by simp only; omega⟩, hcc⟩
theorem StepsR.mono {R R' : Hp} (hR : R.le R') {v : Value} {l : List (Int × Int × List UInt8)} (h : StepsR R v l) : StepsR R' v l := by
  obtain ⟨q, cap, e, h1, h2, h3⟩ := h
  refine ⟨q, cap, e, h1, h2, ?_⟩
  rcases h3 with h | ⟨b, off, hq, hz⟩
  · exact .inl h
  · exact .inr ⟨b, off, hq, fun i x hx => ⟨(hz i x hx).1, fun j u hu => cell_mono hR ((hz i x hx).2 j u hu)⟩⟩
theorem hdrs_push (v : Value) (fs : List FrT) {m : Nat} (hm : m = fs.length) : (hdrs fs ++ [Value.int .i64 0, .int .u64 0, .string (str []), .slice none 0 0]).take (m * 4) ++ [Value.int .i64 2, .int .u64 0, .string (str []), v] ++ (hdrs fs ++ [Value.int .i64 0, .int .u64 0, .string (str []), .slice none 0 0]).drop (m * 4 + [Value.int .i64 2, .int .u64 0, .string (str []), v].length) = hdrs ((v, [], []) :: fs) := by
  subst hm
  rw [← hdrs_len fs, List.take_left, List.drop_of_length_le (by simp), List.append_nil, hdrs]
theorem tree_t {R : Hp} (v0 : Value) (l : List (Int × Int × List UInt8)) (hl : StepsR R v0 l) :
    Tri Try.prog 16 [v0] R [] (fun r R' L' => L' = [] ∧ ∃ x cs ok, r = .tuple #[.agg ⟨cs⟩, .bool ok] ∧ RepN R' x cs ∧ OkN x ∧ cost x ≤ 30000 ∧ ∃ k n s ks, x = .mk k n s ks ∧ ks.length ≤ 60 ∧ (ok = true → k = 2 ∧ n = 0 ∧ s = [])) := by
  obtain ⟨q, cap, rfl, hlc, hcm, hz⟩ := hl
  have hcm' := hcm
  unfold maxLen at hcm
  have zok : OkN ndZero := .mk (by omega) (fun y hy => by simp at hy)
  refine tri_of Try.func16 rfl Try.ntmps16 rfl (fun σ F Q hret hend hpan => ?_)
  try simp only [List.cons_append, List.nil_append]
  refine cj_env (Env.le_cons (t := 0) rfl (Env.le_nil _)) ?_
  refine cj_seq (fun K1 hK1 => ?_)
  refine cj_region ?_
  refine rj_alloc (wn0 rfl) rfl Try.zeroValue26 rfl (fun b2 => ?_)
  refine rj_val (wn0 rfl) rfl rfl (y_assign rfl) ?_
  refine rj_nil ?_
  refine hK1 _ _ _ ?_
  refine cj_seq (fun K2 hK2 => ?_)
  refine cj_seq (fun K3 hK3 => ?_)
  refine cj_region ?_
  refine rj_val (wn0 rfl) rfl rfl (y_move rfl) ?_
  first | refine rj_val (wn0 rfl) rfl rfl (y_len_sl Try.underlying36 rfl) ?_ | refine rj_val (wn0 rfl) rfl rfl (y_len_slc Try.underlying36 rfl (by ((repeat (first | exact Find.head _ | apply Find.tail)); done))) ?_
  refine rj_val (wn0 rfl) rfl rfl (y_gtr rfl rfl) ?_
  refine rj_nil ?_
  refine hK3 _ _ _ ?_
  refine cj_env (Env.le_cons (t := 0) rfl (Env.le_cons (t := 2) rfl (Env.le_cons (t := 12) rfl (Env.le_nil _)))) ?_
  refine cj_cond rfl (fun hc12 => ?_) (fun hc12 => ?_)
  · try simp only [decide_eq_true_eq, decide_eq_false_iff_not, Bool.not_eq_true', Bool.not_eq_false', Bool.true_eq_false, Bool.false_eq_true] at hc12
    refine cj_seq (fun K5 hK5 => ?_)
    refine cj_region ?_
    refine rj_val (wn0 rfl) rfl rfl (y_build (cells := [_, _, _, _]) [(0, 1), (1, 1), (2, 1), (3, 1)] Try.underlying26 Try.zeroValue26 (fun _ => rfl) rfl rfl) ?_
    refine rj_stores ⟨Try.isAgg26, Try.sizeOf26⟩ rfl (wn0 rfl) rfl rfl (by (first | (simp [Value.oneCell']; done) | (intro u hu; simp only [List.mem_cons, List.not_mem_nil, or_false] at hu; rcases hu with rfl | rfl | rfl | rfl <;> first | rfl | assumption))) (by ((repeat (first | exact Find.head _ | apply Find.tail)); done)) (by (simp)) rfl ?_
    refine rj_val (wn0 rfl) rfl rfl (y_assign rfl) ?_
    refine rj_nil ?_
    refine hK5 _ _ _ ?_
    refine cj_env (Env.le_cons (t := 2) rfl (Env.le_cons (t := 3) rfl (Env.le_nil _))) ?_
    refine cj_ret ?_
    refine hret _ _ _ ?_
    apply ej_ret Try.results16 (.cons (rv_cells ⟨Try.isAgg26, Try.sizeOf26⟩ rfl (by ((repeat (first | exact Find.head _ | apply Find.tail)); done)) rfl rfl) (.cons (rv_tmp rfl) .nil)) _ [] (by first | exact Hp.le_refl _ | assumption | exact Hp.le_trans hR4 hR5) rfl
    case hp => exact ⟨rfl, ndZero, _, false, rfl, zero_rep R, zok, by decide, _, _, _, _, rfl, by decide, fun h => by cases h⟩
    case hS => (repeat (first | exact Sub.refl _ | (apply Sub.pick; focus (repeat (first | exact Find.head _ | apply Find.tail))) | apply Sub.drop | exact Sub.tailApp _ _))
  · try simp only [decide_eq_true_eq, decide_eq_false_iff_not, Bool.not_eq_true', Bool.not_eq_false', Bool.true_eq_false, Bool.false_eq_true] at hc12
    refine cj_skip ?_
    refine hK2 _ _ _ ?_
    refine cj_seq (fun K6 hK6 => ?_)
    refine cj_region ?_
    refine rj_val (wn0 rfl) rfl rfl (y_build (cells := [_, _, _, _]) [(0, 1), (1, 1), (2, 1), (3, 1)] Try.underlying26 Try.zeroValue26 (fun _ => rfl) rfl rfl) ?_
    refine rj_buildSlice (sz := 4) (wn0 rfl) rfl Try.underlying24 Try.sizeOf26 Try.zeroValue26 rfl rfl rfl (by decide) (by decide) (fun bs => ?_)
    refine rj_alloc (wn0 rfl) rfl Try.zeroValue24 rfl (fun b4 => ?_)
    refine rj_store ⟨Try.isAgg24, Try.sizeOf24⟩ (wn0 rfl) rfl rfl (by (first | rfl | assumption | (apply cutV_one; assumption))) (by ((repeat (first | exact Find.head _ | apply Find.tail)); done)) rfl rfl ?_
    skip
    refine rj_add (A := frA (.slice none 0 0, [], [])) (slc_nil _ _) ?_
    refine rj_nil ?_
    refine hK6 _ _ _ ?_
    refine cj_env (Env.le_cons (t := 0) rfl (Env.le_cons (t := 2) rfl (Env.le_cons (t := 4) rfl (Env.le_nil _)))) ?_
    refine cj_seq (fun K7 hK7 => ?_)
    refine cj_region ?_
    refine rj_val (wn0 rfl) rfl rfl (y_makeFunc rfl rfl) ?_
    refine rj_val (wn0 rfl) rfl rfl (y_assign rfl) ?_
    refine rj_nil ?_
    refine hK7 _ _ _ ?_
    refine cj_seq (fun K8 hK8 => ?_)
    refine cj_seq (fun K9 hK9 => ?_)
    refine cj_region ?_
    refine rj_val (wn0 rfl) rfl rfl (y_move rfl) ?_
    first | refine rj_val (wn0 rfl) rfl rfl (y_len_sl Try.underlying36 rfl) ?_ | refine rj_val (wn0 rfl) rfl rfl (y_len_slc Try.underlying36 rfl (by ((repeat (first | exact Find.head _ | apply Find.tail)); done))) ?_
    refine rj_val (wn0 rfl) rfl rfl (y_move rfl) ?_
    refine rj_nil ?_
    refine hK9 _ _ _ ?_
    refine cj_block ?_
    refine cj_env (E' := (fun (x : Nat × Value × FrT × List FrT × Hp) => [(2, .pointer (some ⟨b2, 0, none⟩)), (4, .pointer (some ⟨b4, 0, none⟩)), (5, .func (.func 29) ⟨[]⟩ ⟨[.pointer (some ⟨b4, 0, none⟩)]⟩), (17, .slice q l.length cap), (18, .int .i64 (l.length : Int)), (19, .int .i64 (x.1 : Int))]) (0, .slice (some ⟨bs, 0, none⟩) 1 1, (.slice none 0 0, [], []), [], R)) (Env.le_cons rfl (Env.le_cons rfl (Env.le_cons rfl (Env.le_cons rfl (Env.le_cons rfl (Env.le_cons rfl (Env.le_nil _))))))) ?_
    refine cj_sub (M := (fun (x : Nat × Value × FrT × List FrT × Hp) => blk b2 [.int .i64 0, .int .u64 0, .string (str []), .slice none 0 0] 26 :: blk b4 [x.2.1] 24 :: slc 26 4 x.2.1 (x.2.2.2.1.length + 1) (hdrs (x.2.2.1 :: x.2.2.2.1)) :: frA x.2.2.1 :: (x.2.2.2.1.map frA ++ F)) (0, .slice (some ⟨bs, 0, none⟩) 1 1, (.slice none 0 0, [], []), [], R)) (by (repeat (first | exact Sub.refl _ | (apply Sub.pick; focus (repeat (first | exact Find.head _ | apply Find.tail))) | apply Sub.drop | exact Sub.tailApp _ _))) ?_
    refine cj_loop (fun (x : Nat × Value × FrT × List FrT × Hp) => [(2, .pointer (some ⟨b2, 0, none⟩)), (4, .pointer (some ⟨b4, 0, none⟩)), (5, .func (.func 29) ⟨[]⟩ ⟨[.pointer (some ⟨b4, 0, none⟩)]⟩), (17, .slice q l.length cap), (18, .int .i64 (l.length : Int)), (19, .int .i64 (x.1 : Int))]) (fun (x : Nat × Value × FrT × List FrT × Hp) => x.2.2.2.2) (fun (x : Nat × Value × FrT × List FrT × Hp) => blk b2 [.int .i64 0, .int .u64 0, .string (str []), .slice none 0 0] 26 :: blk b4 [x.2.1] 24 :: slc 26 4 x.2.1 (x.2.2.2.1.length + 1) (hdrs (x.2.2.1 :: x.2.2.2.1)) :: frA x.2.2.1 :: (x.2.2.2.1.map frA ++ F)) (fun (x : Nat × Value × FrT × List FrT × Hp) => x.1 ≤ l.length ∧ R.le x.2.2.2.2 ∧ TI x.2.2.2.2 x.1 (x.2.2.1 :: x.2.2.2.1)) (fun (x : Nat × Value × FrT × List FrT × Hp) => l.length - x.1) (0, .slice (some ⟨bs, 0, none⟩) 1 1, (.slice none 0 0, [], []), [], R) (⟨by simp, Hp.le_refl R, TI.start _⟩) ?_
    rintro ⟨i, v, ⟨vt, ks, css⟩, rest, R1⟩ ⟨hi, hR1, hT⟩
    try dsimp only
    dsimp only at hi hR1 hT
    have hlen := hT.len1
    dsimp only at hlen
    refine cj_seq (fun K10 hK10 => ?_)
    refine cj_region ?_
    refine rj_val (wn0 rfl) rfl rfl (y_lss rfl rfl) ?_
    refine rj_nil ?_
    refine hK10 _ _ _ ?_
    refine cj_seq (fun K11 hK11 => ?_)
    refine cj_cond rfl (fun hc20 => ?_) (fun hc20 => ?_)
    · try simp only [decide_eq_true_eq, decide_eq_false_iff_not, Bool.not_eq_true', Bool.not_eq_false', Bool.true_eq_false, Bool.false_eq_true] at hc20
      refine cj_skip ?_
      refine hK11 _ _ _ ?_
      refine cj_seq (fun K13 hK13 => ?_)
      have hJ25 : ∀ (x : Value × FrT × List FrT × Hp), R.le x.2.2.2 ∧ TI x.2.2.2 (i + 1) (x.2.1 :: x.2.2.1) → EJ ⟨Try.prog, 118, σ⟩ K13 [(2, .pointer (some ⟨b2, 0, none⟩)), (4, .pointer (some ⟨b4, 0, none⟩)), (5, .func (.func 29) ⟨[]⟩ ⟨[.pointer (some ⟨b4, 0, none⟩)]⟩), (17, .slice q l.length cap), (18, .int .i64 (l.length : Int)), (19, .int .i64 (i : Int))] x.2.2.2 (blk b2 [.int .i64 0, .int .u64 0, .string (str []), .slice none 0 0] 26 :: blk b4 [x.1] 24 :: slc 26 4 x.1 (x.2.2.1.length + 1) (hdrs (x.2.1 :: x.2.2.1)) :: frA x.2.1 :: (x.2.2.1.map frA ++ F)) := by
        rintro ⟨v3, ⟨vt3, ks3, css3⟩, rest3, R3⟩ ⟨hR3, hT3⟩
        try dsimp only
        refine hK13 _ _ _ ?_
        refine cj_region ?_
        first | refine rj_val (wn0 rfl) rfl rfl (y_add64 rfl rfl (by (first | omega | (dsimp only; omega) | (simp; done) | (simp; omega)))) ?_ | refine rj_val (wn0 rfl) rfl rfl (y_add rfl rfl) ?_
        refine rj_val (wn0 rfl) rfl rfl (y_move rfl) ?_
        refine rj_nil ?_
        refine ej_on (q' := roundK _ _ _ _ _ _ _) rfl ?_
        refine ej_round ((i + 1, v3, (vt3, ks3, css3), rest3, R3)) (⟨by dsimp only; omega, hR3, hT3⟩) (by dsimp only; omega) (Env.le_cons rfl (Env.le_cons rfl (Env.le_cons rfl (Env.le_cons rfl (Env.le_cons rfl (Env.le_cons rfl (Env.le_nil _))))))) rfl (by (repeat (first | exact Sub.refl _ | (apply Sub.pick; focus (repeat (first | exact Find.head _ | apply Find.tail))) | apply Sub.drop | exact Sub.tailApp _ _)))
      refine cj_block ?_
      refine cj_seq (fun K14 hK14 => ?_)
      refine cj_region ?_
      obtain ⟨b, off, rfl, hz2⟩ := hz.resolve_left (by rintro rfl; simp at hc20; omega)
      obtain ⟨⟨what, n, s⟩, hx⟩ : ∃ x, l[i]? = some x := ⟨l[i]'(by omega), by simp⟩
      obtain ⟨hn, hcc⟩ := hz2 i _ hx
      dsimp only at hn hcc
      obtain ⟨n, rfl⟩ := Int.eq_ofNat_of_zero_le hn.1
      have hn2 : n < 18446744073709551616 := by omega
      have hkf : Kids R1 ks css := hT.kids (vt, ks, css) (by simp)
      first | refine rj_val (wn0 rfl) rfl rfl (y_indexAddr Try.underlying36 Try.sizeOf63 rfl rfl (by (first | omega | (dsimp only; omega) | (simp; done) | (simp; omega)))) ?_ | refine rj_val (wn0 rfl) rfl rfl (y_index_slc Try.underlying36 Try.sizeOf63 rfl rfl (by ((repeat (first | exact Find.head _ | apply Find.tail)); done)) (by (first | omega | (dsimp only; omega) | (simp; done) | (simp; omega)))) ?_
      refine rj_val (wn0 rfl) rfl rfl ((y_loads_ro ⟨Try.isAgg63, Try.sizeOf63⟩ (vs := [.int .i64 what, .int .u64 ((n : Nat) : Int), .string (str s)]) rfl rfl (fun j u hj => cell_mono hR1 (by simpa using hcc j u hj)))) ?_
      refine rj_alloc (wn0 rfl) rfl Try.zeroValue63 rfl (fun b7 => ?_)
      refine rj_stores ⟨Try.isAgg63, Try.sizeOf63⟩ rfl (wn0 rfl) rfl rfl (by (first | (simp [Value.oneCell']; done) | (intro u hu; simp only [List.mem_cons, List.not_mem_nil, or_false] at hu; rcases hu with rfl | rfl | rfl | rfl <;> first | rfl | assumption))) (by ((repeat (first | exact Find.head _ | apply Find.tail)); done)) (by (simp)) rfl ?_
      refine rj_nil ?_
      refine hK14 _ _ _ ?_
      refine cj_env (Env.le_cons (t := 2) rfl (Env.le_cons (t := 4) rfl (Env.le_cons (t := 5) rfl (Env.le_cons (t := 7) rfl (Env.le_cons (t := 17) rfl (Env.le_cons (t := 18) rfl (Env.le_cons (t := 19) rfl (Env.le_nil _)))))))) ?_
      refine cj_seq (fun K15 hK15 => ?_)
      refine cj_seq (fun K16 hK16 => ?_)
      refine cj_region ?_
      refine rj_val (wn0 rfl) rfl rfl (y_fieldAddr (k := 2) Try.underlying63 rfl (n := 1) (by decide) Try.sizeOf9 rfl) ?_
      first | refine rj_val (wn0 rfl) rfl rfl (y_load ⟨Try.isAgg9, Try.sizeOf9⟩ rfl (by ((repeat (first | exact Find.head _ | apply Find.tail)); done)) rfl) ?_ | refine rj_val (wn0 rfl) rfl rfl (y_load_slc ⟨Try.isAgg9, Try.sizeOf9⟩ rfl (by ((repeat (first | exact Find.head _ | apply Find.tail)); done)) rfl) ?_
      refine rj_val (wn0 rfl) rfl rfl (y_slen Try.underlying9 rfl) ?_
      refine rj_val (wn0 rfl) rfl rfl (y_gtr rfl rfl) ?_
      refine rj_nil ?_
      refine hK16 _ _ _ ?_
      refine cj_env (Env.le_cons (t := 2) rfl (Env.le_cons (t := 4) rfl (Env.le_cons (t := 5) rfl (Env.le_cons (t := 7) rfl (Env.le_cons (t := 17) rfl (Env.le_cons (t := 18) rfl (Env.le_cons (t := 19) rfl (Env.le_cons (t := 26) rfl (Env.le_nil _))))))))) ?_
      refine cj_cond rfl (fun hc26 => ?_) (fun hc26 => ?_)
      · try simp only [decide_eq_true_eq, decide_eq_false_iff_not, Bool.not_eq_true', Bool.not_eq_false', Bool.true_eq_false, Bool.false_eq_true] at hc26
        refine cj_seq (fun K18 hK18 => ?_)
        refine cj_region ?_
        refine rj_val (wn0 rfl) rfl rfl (y_build (cells := [_, _, _, _]) [(0, 1), (1, 1), (2, 1), (3, 1)] Try.underlying26 Try.zeroValue26 (fun _ => rfl) rfl rfl) ?_
        refine rj_stores ⟨Try.isAgg26, Try.sizeOf26⟩ rfl (wn0 rfl) rfl rfl (by (first | (simp [Value.oneCell']; done) | (intro u hu; simp only [List.mem_cons, List.not_mem_nil, or_false] at hu; rcases hu with rfl | rfl | rfl | rfl <;> first | rfl | assumption))) (by ((repeat (first | exact Find.head _ | apply Find.tail)); done)) (by (simp)) rfl ?_
        refine rj_val (wn0 rfl) rfl rfl (y_assign rfl) ?_
        refine rj_nil ?_
        refine hK18 _ _ _ ?_
        refine cj_env (Env.le_cons (t := 2) rfl (Env.le_cons (t := 3) rfl (Env.le_nil _))) ?_
        refine cj_ret ?_
        refine hret _ _ _ ?_
        apply ej_ret Try.results16 (.cons (rv_cells ⟨Try.isAgg26, Try.sizeOf26⟩ rfl (by ((repeat (first | exact Find.head _ | apply Find.tail)); done)) rfl rfl) (.cons (rv_tmp rfl) .nil)) _ [] (by first | exact Hp.le_refl _ | assumption | exact Hp.le_trans hR4 hR5) rfl
        case hp => exact ⟨rfl, ndZero, _, false, rfl, zero_rep _, zok, by decide, _, _, _, _, rfl, by decide, fun h => by cases h⟩
        case hS => (repeat (first | exact Sub.refl _ | (apply Sub.pick; focus (repeat (first | exact Find.head _ | apply Find.tail))) | apply Sub.drop | exact Sub.tailApp _ _))
      · try simp only [decide_eq_true_eq, decide_eq_false_iff_not, Bool.not_eq_true', Bool.not_eq_false', Bool.true_eq_false, Bool.false_eq_true] at hc26
        refine cj_skip ?_
        refine hK15 _ _ _ ?_
        refine cj_seq (fun K19 hK19 => ?_)
        refine cj_region ?_
        have hs300 : s.length ≤ 300 := by (try simp at hc26); omega
        have hsb : s.length ≤ big := by unfold big; omega
        refine rj_pure (A := frA (vt, ks, css)) (by ((repeat (first | exact Find.head _ | apply Find.tail)); done)) slc_one (fun hvto => ?_)
        dsimp only at hvto
        first | refine rj_val (wn0 rfl) rfl rfl (y_load ⟨Try.isAgg24, Try.sizeOf24⟩ rfl (by ((repeat (first | exact Find.head _ | apply Find.tail)); done)) rfl) ?_ | refine rj_val (wn0 rfl) rfl rfl (y_load_slc ⟨Try.isAgg24, Try.sizeOf24⟩ rfl (by ((repeat (first | exact Find.head _ | apply Find.tail)); done)) rfl) ?_
        first | refine rj_val (wn0 rfl) rfl rfl (y_load ⟨Try.isAgg24, Try.sizeOf24⟩ rfl (by ((repeat (first | exact Find.head _ | apply Find.tail)); done)) rfl) ?_ | refine rj_val (wn0 rfl) rfl rfl (y_load_slc ⟨Try.isAgg24, Try.sizeOf24⟩ rfl (by ((repeat (first | exact Find.head _ | apply Find.tail)); done)) rfl) ?_
        first | refine rj_val (wn0 rfl) rfl rfl (y_len_sl Try.underlying24 rfl) ?_ | refine rj_val (wn0 rfl) rfl rfl (y_len_slc Try.underlying24 rfl (by ((repeat (first | exact Find.head _ | apply Find.tail)); done))) ?_
        first | refine rj_val (wn0 rfl) rfl rfl (y_sub64 rfl rfl (by (first | omega | (dsimp only; omega) | (simp; done) | (simp; omega)))) ?_ | refine rj_val (wn0 rfl) rfl rfl (y_sub rfl rfl) ?_
        refine rj_eq 31 rfl (v' := .int .i64 ((rest.length : Nat) : Int)) (by congr 1; omega) ?_
        first | refine rj_val (wn0 rfl) rfl rfl (y_indexAddr Try.underlying24 Try.sizeOf26 rfl rfl (by (first | omega | (dsimp only; omega) | (simp; done) | (simp; omega)))) ?_ | refine rj_val (wn0 rfl) rfl rfl (y_index_slc Try.underlying24 Try.sizeOf26 rfl rfl (by ((repeat (first | exact Find.head _ | apply Find.tail)); done)) (by (first | omega | (dsimp only; omega) | (simp; done) | (simp; omega)))) ?_
        refine rj_val (wn0 rfl) rfl rfl (y_assign rfl) ?_
        refine rj_nil ?_
        refine hK19 _ _ _ ?_
        refine cj_env (Env.le_cons (t := 2) rfl (Env.le_cons (t := 4) rfl (Env.le_cons (t := 5) rfl (Env.le_cons (t := 7) rfl (Env.le_cons (t := 8) rfl (Env.le_cons (t := 17) rfl (Env.le_cons (t := 18) rfl (Env.le_cons (t := 19) rfl (Env.le_nil _))))))))) ?_
        refine cj_seq (fun K20 hK20 => ?_)
        refine cj_region ?_
        refine rj_val (wn0 rfl) rfl rfl (y_fieldAddr (k := 0) Try.underlying63 rfl (n := 1) (by decide) Try.sizeOf3 rfl) ?_
        first | refine rj_val (wn0 rfl) rfl rfl (y_load ⟨Try.isAgg3, Try.sizeOf3⟩ rfl (by ((repeat (first | exact Find.head _ | apply Find.tail)); done)) rfl) ?_ | refine rj_val (wn0 rfl) rfl rfl (y_load_slc ⟨Try.isAgg3, Try.sizeOf3⟩ rfl (by ((repeat (first | exact Find.head _ | apply Find.tail)); done)) rfl) ?_
        refine rj_nil ?_
        refine hK20 _ _ _ ?_
        refine cj_block ?_
        refine cj_seq (fun K21 hK21 => ?_)
        refine cj_region ?_
        refine rj_val (wn0 rfl) rfl rfl (y_eql rfl rfl) ?_
        refine rj_val (wn0 rfl) rfl rfl (y_assign rfl) ?_
        refine rj_nil ?_
        refine hK21 _ _ _ ?_
        refine cj_cond rfl (fun hc35 => ?_) (fun hc35 => ?_)
        · try simp only [decide_eq_true_eq, decide_eq_false_iff_not, Bool.not_eq_true', Bool.not_eq_false', Bool.true_eq_false, Bool.false_eq_true] at hc35
          refine cj_mixt (L := [blk b7 [.int .i64 what, .int .u64 ((n : Nat) : Int), .string (str s)] 63, slc 26 4 v (rest.length + 1) (hdrs ((vt, ks, css) :: rest)), frA (vt, ks, css)]) [0, 1, 2, 3, 4, 5, 6, 7] [8] [9, 10, 11, 12, 13, 14] _ (by (repeat (first | exact Sub.refl _ | (apply Sub.pick; focus (repeat (first | exact Find.head _ | apply Find.tail))) | apply Sub.drop | exact Sub.tailApp _ _))) (by kernel_rfl) (by kernel_rfl) ?_
          refine fj_val rfl rfl rfl (wn0 rfl) (fun R1 hR1 G => (y_move rfl)) ?_
          refine fj_val rfl rfl rfl (wn0 rfl) (fun R1 hR1 G => (y_nilCheck_slc (sz := 4) (n := rest.length + 1) rfl (by ((repeat (first | exact Find.head _ | apply Find.tail)); done)) (by omega))) ?_
          refine fj_val rfl rfl rfl (wn0 rfl) (fun R1 hR1 G => (y_fieldAddr_slc (k := 3) Try.underlying26 rfl (m := 1) (by decide) Try.sizeOf24 rfl (by ((repeat (first | exact Find.head _ | apply Find.tail)); done)) (by omega))) ?_
          refine fj_val rfl rfl rfl (wn0 rfl) (fun R1 hR1 G => (y_load_slc ⟨Try.isAgg24, Try.sizeOf24⟩ rfl (by ((repeat (first | exact Find.head _ | apply Find.tail)); done)) (hdrs_kids (vt, ks, css) rest))) ?_
          refine fj_val rfl rfl rfl (wn0 rfl) (fun R1 hR1 G => (y_fieldAddr (k := 1) Try.underlying63 rfl (n := 1) (by decide) Try.sizeOf23 rfl)) ?_
          first | refine fj_val rfl rfl rfl (wn0 rfl) (fun R1 hR1 G => (y_load ⟨Try.isAgg23, Try.sizeOf23⟩ rfl (by ((repeat (first | exact Find.head _ | apply Find.tail)); done)) rfl)) ?_ | refine fj_val rfl rfl rfl (wn0 rfl) (fun R1 hR1 G => (y_load_slc ⟨Try.isAgg23, Try.sizeOf23⟩ rfl (by ((repeat (first | exact Find.head _ | apply Find.tail)); done)) rfl)) ?_
          refine fj_val rfl rfl rfl (wn0 rfl) (fun R1 hR1 G => (y_build (cells := [_, _, _, _]) [(0, 1), (1, 1), (2, 1), (3, 1)] Try.underlying26 Try.zeroValue26 (fun _ => rfl) rfl rfl)) ?_
          refine fj_val rfl rfl rfl (wn0 rfl) (fun R1 hR1 G => (y_len_slc Try.underlying24 rfl (by ((repeat (first | exact Find.head _ | apply Find.tail)); done)))) ?_
          refine fj_nil ?_
          refine xj_rj rfl ?_
          try simp only [List.cons_append, List.nil_append, List.append_nil]
          refine rj_buildSlice (sz := 4) (wn0 rfl) rfl Try.underlying24 Try.sizeOf26 Try.zeroValue26 rfl rfl rfl (by decide) (by decide) (fun bz => ?_)
          refine rj_xk (by (first | exact Hp.le_refl _ | assumption | exact Hp.le_trans ‹_› ‹_›)) (by (repeat (first | exact Sub.refl _ | (apply Sub.pick; focus (repeat (first | exact Find.head _ | apply Find.tail))) | apply Sub.drop | exact Sub.tailApp _ _))) ?_
          refine xj_nil ?_
          try simp only [List.cons_append, List.nil_append, List.append_nil]
          refine tj_all (rs := [9]) (by kernel_rfl) (by decide) ⟨⟨_, rfl, ?_⟩, trivial⟩
          refine rj_append (sz := 4) (by_ := 56) ⟨Try.underlying24, _, _, rfl, rfl, rfl, rfl, rfl⟩ (wn0 rfl) rfl rfl rfl (by ((repeat (first | exact Find.head _ | apply Find.tail)); done)) (src_slc (xs := [.int .i64 0, .int .u64 0, .string (str []), .slice none 0 0]) Try.underlying24 (by ((repeat (first | exact Find.head _ | apply Find.tail)); done)) (by (first | (simp [Value.oneCell']; done) | (intro u hu; simp only [List.mem_cons, List.not_mem_nil, or_false] at hu; rcases hu with rfl | rfl | rfl | rfl <;> first | rfl | assumption)))) rfl (by (first | omega | (dsimp only; omega) | (simp; done) | (simp; omega))) (by simp only [maxLen]; omega) (fun v46 ho46 hh46 => ?_)
          rw [len_snoc ks (Nd.mk 0 n [] [])]
          refine rj_tj ?_
          refine tj_all (rs := [10, 12]) (by kernel_rfl) (by decide) ⟨⟨_, rfl, ?_⟩, ⟨_, rfl, ?_⟩, trivial⟩
          · refine rj_val (wn0 rfl) rfl rfl ((y_index_slc (sz := 4) (n := (ks ++ [Nd.mk 0 n [] []]).length) Try.underlying24 Try.sizeOf26 rfl rfl (by ((repeat (first | exact Find.head _ | apply Find.tail)); done)) (by simp; omega))) ?_
            refine rj_tj ?_
            refine tj_all (rs := [11, 12]) (by kernel_rfl) (by decide) ⟨⟨_, rfl, ?_⟩, ⟨_, rfl, ?_⟩, trivial⟩
            · refine rj_stores_slc (sz := 4) (n := (ks ++ [Nd.mk 0 n [] []]).length) (j := ks.length * 4) ⟨Try.isAgg26, Try.sizeOf26⟩ rfl (wn0 rfl) rfl rfl (by (first | (simp [Value.oneCell']; done) | (intro u hu; simp only [List.mem_cons, List.not_mem_nil, or_false] at hu; rcases hu with rfl | rfl | rfl | rfl <;> first | rfl | assumption))) (by ((repeat (first | exact Find.head _ | apply Find.tail)); done)) (by rw [List.length_append, hkf.flat]; exact Nat.le_refl _) (flat_set hkf vt rfl rfl) (by simp) ?_
              refine rj_tj ?_
              refine tj_all (rs := [12]) (by kernel_rfl) (by decide) ⟨⟨_, rfl, ?_⟩, trivial⟩
              refine rj_val (wn0 rfl) rfl rfl ((y_nilCheck_slc (sz := 4) (n := rest.length + 1) rfl (by ((repeat (first | exact Find.head _ | apply Find.tail)); done)) (by omega))) ?_
              refine rj_tj ?_
              refine tj_all (rs := [13]) (by kernel_rfl) (by decide) ⟨⟨_, rfl, ?_⟩, trivial⟩
              refine rj_val (wn0 rfl) rfl rfl ((y_fieldAddr_slc (k := 3) Try.underlying26 rfl (m := 1) (by decide) Try.sizeOf24 rfl (by ((repeat (first | exact Find.head _ | apply Find.tail)); done)) (by omega))) ?_
              refine rj_tj ?_
              refine tj_all (rs := [14]) (by kernel_rfl) (by decide) ⟨⟨_, rfl, ?_⟩, trivial⟩
              refine rj_store_slc (sz := 4) (n := rest.length + 1) (j := rest.length * 4 + 3) ⟨Try.isAgg24, Try.sizeOf24⟩ (wn0 rfl) rfl rfl (by (first | rfl | assumption | (apply cutV_one; assumption))) (by ((repeat (first | exact Find.head _ | apply Find.tail)); done)) (by rw [hdrs_len]; simp; omega) (hdrs_set (vt, ks, css) rest _ (ks ++ [Nd.mk 0 n [] []]) (css ++ [[.int .i64 0, .int .u64 ((n : Nat) : Int), .string (str []), .slice none 0 0]])) (by omega) ?_
              refine rj_tj ?_
              refine tj_done (by kernel_rfl) ?_
              refine ej_join hJ25 ((v, (v46, ks ++ [Nd.mk 0 n [] []], css ++ [[.int .i64 0, .int .u64 ((n : Nat) : Int), .string (str []), .slice none 0 0]]), rest, R1)) (⟨hR1, hT.push (RepL.node (by simp [big]) (RepL.nil _)) (.mk hn2 (fun _ h => by simp at h)) (by simp [cost, costL])⟩) (Env.le_cons rfl (Env.le_cons rfl (Env.le_cons rfl (Env.le_cons rfl (Env.le_cons rfl (Env.le_cons rfl (Env.le_nil _))))))) rfl (by (repeat (first | exact Sub.refl _ | (apply Sub.pick; focus (repeat (first | exact Find.head _ | apply Find.tail))) | apply Sub.drop | exact Sub.tailApp _ _)))
            · refine rj_val (wn0 rfl) rfl rfl ((y_nilCheck_slc (sz := 4) (n := rest.length + 1) rfl (by ((repeat (first | exact Find.head _ | apply Find.tail)); done)) (by omega))) ?_
              refine rj_tj ?_
              refine tj_all (rs := [11, 13]) (by kernel_rfl) (by decide) ⟨⟨_, rfl, ?_⟩, ⟨_, rfl, ?_⟩, trivial⟩
              · refine rj_stores_slc (sz := 4) (n := (ks ++ [Nd.mk 0 n [] []]).length) (j := ks.length * 4) ⟨Try.isAgg26, Try.sizeOf26⟩ rfl (wn0 rfl) rfl rfl (by (first | (simp [Value.oneCell']; done) | (intro u hu; simp only [List.mem_cons, List.not_mem_nil, or_false] at hu; rcases hu with rfl | rfl | rfl | rfl <;> first | rfl | assumption))) (by ((repeat (first | exact Find.head _ | apply Find.tail)); done)) (by rw [List.length_append, hkf.flat]; exact Nat.le_refl _) (flat_set hkf vt rfl rfl) (by simp) ?_
                refine rj_tj ?_
                refine tj_all (rs := [13]) (by kernel_rfl) (by decide) ⟨⟨_, rfl, ?_⟩, trivial⟩
                refine rj_val (wn0 rfl) rfl rfl ((y_fieldAddr_slc (k := 3) Try.underlying26 rfl (m := 1) (by decide) Try.sizeOf24 rfl (by ((repeat (first | exact Find.head _ | apply Find.tail)); done)) (by omega))) ?_
                refine rj_tj ?_
                refine tj_all (rs := [14]) (by kernel_rfl) (by decide) ⟨⟨_, rfl, ?_⟩, trivial⟩
                refine rj_store_slc (sz := 4) (n := rest.length + 1) (j := rest.length * 4 + 3) ⟨Try.isAgg24, Try.sizeOf24⟩ (wn0 rfl) rfl rfl (by (first | rfl | assumption | (apply cutV_one; assumption))) (by ((repeat (first | exact Find.head _ | apply Find.tail)); done)) (by rw [hdrs_len]; simp; omega) (hdrs_set (vt, ks, css) rest _ (ks ++ [Nd.mk 0 n [] []]) (css ++ [[.int .i64 0, .int .u64 ((n : Nat) : Int), .string (str []), .slice none 0 0]])) (by omega) ?_
                refine rj_tj ?_
                refine tj_done (by kernel_rfl) ?_
                refine ej_join hJ25 ((v, (v46, ks ++ [Nd.mk 0 n [] []], css ++ [[.int .i64 0, .int .u64 ((n : Nat) : Int), .string (str []), .slice none 0 0]]), rest, R1)) (⟨hR1, hT.push (RepL.node (by simp [big]) (RepL.nil _)) (.mk hn2 (fun _ h => by simp at h)) (by simp [cost, costL])⟩) (Env.le_cons rfl (Env.le_cons rfl (Env.le_cons rfl (Env.le_cons rfl (Env.le_cons rfl (Env.le_cons rfl (Env.le_nil _))))))) rfl (by (repeat (first | exact Sub.refl _ | (apply Sub.pick; focus (repeat (first | exact Find.head _ | apply Find.tail))) | apply Sub.drop | exact Sub.tailApp _ _)))
              · refine rj_val (wn0 rfl) rfl rfl ((y_fieldAddr_slc (k := 3) Try.underlying26 rfl (m := 1) (by decide) Try.sizeOf24 rfl (by ((repeat (first | exact Find.head _ | apply Find.tail)); done)) (by omega))) ?_
                refine rj_tj ?_
                refine tj_all (rs := [11, 14]) (by kernel_rfl) (by decide) ⟨⟨_, rfl, ?_⟩, ⟨_, rfl, ?_⟩, trivial⟩
                · refine rj_stores_slc (sz := 4) (n := (ks ++ [Nd.mk 0 n [] []]).length) (j := ks.length * 4) ⟨Try.isAgg26, Try.sizeOf26⟩ rfl (wn0 rfl) rfl rfl (by (first | (simp [Value.oneCell']; done) | (intro u hu; simp only [List.mem_cons, List.not_mem_nil, or_false] at hu; rcases hu with rfl | rfl | rfl | rfl <;> first | rfl | assumption))) (by ((repeat (first | exact Find.head _ | apply Find.tail)); done)) (by rw [List.length_append, hkf.flat]; exact Nat.le_refl _) (flat_set hkf vt rfl rfl) (by simp) ?_
                  refine rj_tj ?_
                  refine tj_all (rs := [14]) (by kernel_rfl) (by decide) ⟨⟨_, rfl, ?_⟩, trivial⟩
                  refine rj_store_slc (sz := 4) (n := rest.length + 1) (j := rest.length * 4 + 3) ⟨Try.isAgg24, Try.sizeOf24⟩ (wn0 rfl) rfl rfl (by (first | rfl | assumption | (apply cutV_one; assumption))) (by ((repeat (first | exact Find.head _ | apply Find.tail)); done)) (by rw [hdrs_len]; simp; omega) (hdrs_set (vt, ks, css) rest _ (ks ++ [Nd.mk 0 n [] []]) (css ++ [[.int .i64 0, .int .u64 ((n : Nat) : Int), .string (str []), .slice none 0 0]])) (by omega) ?_
                  refine rj_tj ?_
                  refine tj_done (by kernel_rfl) ?_
                  refine ej_join hJ25 ((v, (v46, ks ++ [Nd.mk 0 n [] []], css ++ [[.int .i64 0, .int .u64 ((n : Nat) : Int), .string (str []), .slice none 0 0]]), rest, R1)) (⟨hR1, hT.push (RepL.node (by simp [big]) (RepL.nil _)) (.mk hn2 (fun _ h => by simp at h)) (by simp [cost, costL])⟩) (Env.le_cons rfl (Env.le_cons rfl (Env.le_cons rfl (Env.le_cons rfl (Env.le_cons rfl (Env.le_cons rfl (Env.le_nil _))))))) rfl (by (repeat (first | exact Sub.refl _ | (apply Sub.pick; focus (repeat (first | exact Find.head _ | apply Find.tail))) | apply Sub.drop | exact Sub.tailApp _ _)))
                · refine rj_store_slc (sz := 4) (n := rest.length + 1) (j := rest.length * 4 + 3) ⟨Try.isAgg24, Try.sizeOf24⟩ (wn0 rfl) rfl rfl (by (first | rfl | assumption | (apply cutV_one; assumption))) (by ((repeat (first | exact Find.head _ | apply Find.tail)); done)) (by rw [hdrs_len]; simp; omega) (hdrs_set (vt, ks, css) rest _ (ks ++ [Nd.mk 0 n [] []]) (css ++ [[.int .i64 0, .int .u64 ((n : Nat) : Int), .string (str []), .slice none 0 0]])) (by omega) ?_
                  refine rj_tj ?_
                  refine tj_all (rs := [11]) (by kernel_rfl) (by decide) ⟨⟨_, rfl, ?_⟩, trivial⟩
                  refine rj_stores_slc (sz := 4) (n := (ks ++ [Nd.mk 0 n [] []]).length) (j := ks.length * 4) ⟨Try.isAgg26, Try.sizeOf26⟩ rfl (wn0 rfl) rfl rfl (by (first | (simp [Value.oneCell']; done) | (intro u hu; simp only [List.mem_cons, List.not_mem_nil, or_false] at hu; rcases hu with rfl | rfl | rfl | rfl <;> first | rfl | assumption))) (by ((repeat (first | exact Find.head _ | apply Find.tail)); done)) (by rw [List.length_append, hkf.flat]; exact Nat.le_refl _) (flat_set hkf vt rfl rfl) (by simp) ?_
                  refine rj_tj ?_
                  refine tj_done (by kernel_rfl) ?_
                  refine ej_join hJ25 ((v, (v46, ks ++ [Nd.mk 0 n [] []], css ++ [[.int .i64 0, .int .u64 ((n : Nat) : Int), .string (str []), .slice none 0 0]]), rest, R1)) (⟨hR1, hT.push (RepL.node (by simp [big]) (RepL.nil _)) (.mk hn2 (fun _ h => by simp at h)) (by simp [cost, costL])⟩) (Env.le_cons rfl (Env.le_cons rfl (Env.le_cons rfl (Env.le_cons rfl (Env.le_cons rfl (Env.le_cons rfl (Env.le_nil _))))))) rfl (by (repeat (first | exact Sub.refl _ | (apply Sub.pick; focus (repeat (first | exact Find.head _ | apply Find.tail))) | apply Sub.drop | exact Sub.tailApp _ _)))
          · refine rj_val (wn0 rfl) rfl rfl ((y_nilCheck_slc (sz := 4) (n := rest.length + 1) rfl (by ((repeat (first | exact Find.head _ | apply Find.tail)); done)) (by omega))) ?_
            refine rj_tj ?_
            refine tj_all (rs := [10, 13]) (by kernel_rfl) (by decide) ⟨⟨_, rfl, ?_⟩, ⟨_, rfl, ?_⟩, trivial⟩
            · refine rj_val (wn0 rfl) rfl rfl ((y_index_slc (sz := 4) (n := (ks ++ [Nd.mk 0 n [] []]).length) Try.underlying24 Try.sizeOf26 rfl rfl (by ((repeat (first | exact Find.head _ | apply Find.tail)); done)) (by simp; omega))) ?_
              refine rj_tj ?_
              refine tj_all (rs := [11, 13]) (by kernel_rfl) (by decide) ⟨⟨_, rfl, ?_⟩, ⟨_, rfl, ?_⟩, trivial⟩
              · refine rj_stores_slc (sz := 4) (n := (ks ++ [Nd.mk 0 n [] []]).length) (j := ks.length * 4) ⟨Try.isAgg26, Try.sizeOf26⟩ rfl (wn0 rfl) rfl rfl (by (first | (simp [Value.oneCell']; done) | (intro u hu; simp only [List.mem_cons, List.not_mem_nil, or_false] at hu; rcases hu with rfl | rfl | rfl | rfl <;> first | rfl | assumption))) (by ((repeat (first | exact Find.head _ | apply Find.tail)); done)) (by rw [List.length_append, hkf.flat]; exact Nat.le_refl _) (flat_set hkf vt rfl rfl) (by simp) ?_
                refine rj_tj ?_
                refine tj_all (rs := [13]) (by kernel_rfl) (by decide) ⟨⟨_, rfl, ?_⟩, trivial⟩
                refine rj_val (wn0 rfl) rfl rfl ((y_fieldAddr_slc (k := 3) Try.underlying26 rfl (m := 1) (by decide) Try.sizeOf24 rfl (by ((repeat (first | exact Find.head _ | apply Find.tail)); done)) (by omega))) ?_
                refine rj_tj ?_
                refine tj_all (rs := [14]) (by kernel_rfl) (by decide) ⟨⟨_, rfl, ?_⟩, trivial⟩
                refine rj_store_slc (sz := 4) (n := rest.length + 1) (j := rest.length * 4 + 3) ⟨Try.isAgg24, Try.sizeOf24⟩ (wn0 rfl) rfl rfl (by (first | rfl | assumption | (apply cutV_one; assumption))) (by ((repeat (first | exact Find.head _ | apply Find.tail)); done)) (by rw [hdrs_len]; simp; omega) (hdrs_set (vt, ks, css) rest _ (ks ++ [Nd.mk 0 n [] []]) (css ++ [[.int .i64 0, .int .u64 ((n : Nat) : Int), .string (str []), .slice none 0 0]])) (by omega) ?_
                refine rj_tj ?_
                refine tj_done (by kernel_rfl) ?_
                refine ej_join hJ25 ((v, (v46, ks ++ [Nd.mk 0 n [] []], css ++ [[.int .i64 0, .int .u64 ((n : Nat) : Int), .string (str []), .slice none 0 0]]), rest, R1)) (⟨hR1, hT.push (RepL.node (by simp [big]) (RepL.nil _)) (.mk hn2 (fun _ h => by simp at h)) (by simp [cost, costL])⟩) (Env.le_cons rfl (Env.le_cons rfl (Env.le_cons rfl (Env.le_cons rfl (Env.le_cons rfl (Env.le_cons rfl (Env.le_nil _))))))) rfl (by (repeat (first | exact Sub.refl _ | (apply Sub.pick; focus (repeat (first | exact Find.head _ | apply Find.tail))) | apply Sub.drop | exact Sub.tailApp _ _)))
              · refine rj_val (wn0 rfl) rfl rfl ((y_fieldAddr_slc (k := 3) Try.underlying26 rfl (m := 1) (by decide) Try.sizeOf24 rfl (by ((repeat (first | exact Find.head _ | apply Find.tail)); done)) (by omega))) ?_
                refine rj_tj ?_
                refine tj_all (rs := [11, 14]) (by kernel_rfl) (by decide) ⟨⟨_, rfl, ?_⟩, ⟨_, rfl, ?_⟩, trivial⟩
                · refine rj_stores_slc (sz := 4) (n := (ks ++ [Nd.mk 0 n [] []]).length) (j := ks.length * 4) ⟨Try.isAgg26, Try.sizeOf26⟩ rfl (wn0 rfl) rfl rfl (by (first | (simp [Value.oneCell']; done) | (intro u hu; simp only [List.mem_cons, List.not_mem_nil, or_false] at hu; rcases hu with rfl | rfl | rfl | rfl <;> first | rfl | assumption))) (by ((repeat (first | exact Find.head _ | apply Find.tail)); done)) (by rw [List.length_append, hkf.flat]; exact Nat.le_refl _) (flat_set hkf vt rfl rfl) (by simp) ?_
                  refine rj_tj ?_
                  refine tj_all (rs := [14]) (by kernel_rfl) (by decide) ⟨⟨_, rfl, ?_⟩, trivial⟩
                  refine rj_store_slc (sz := 4) (n := rest.length + 1) (j := rest.length * 4 + 3) ⟨Try.isAgg24, Try.sizeOf24⟩ (wn0 rfl) rfl rfl (by (first | rfl | assumption | (apply cutV_one; assumption))) (by ((repeat (first | exact Find.head _ | apply Find.tail)); done)) (by rw [hdrs_len]; simp; omega) (hdrs_set (vt, ks, css) rest _ (ks ++ [Nd.mk 0 n [] []]) (css ++ [[.int .i64 0, .int .u64 ((n : Nat) : Int), .string (str []), .slice none 0 0]])) (by omega) ?_
                  refine rj_tj ?_
                  refine tj_done (by kernel_rfl) ?_
                  refine ej_join hJ25 ((v, (v46, ks ++ [Nd.mk 0 n [] []], css ++ [[.int .i64 0, .int .u64 ((n : Nat) : Int), .string (str []), .slice none 0 0]]), rest, R1)) (⟨hR1, hT.push (RepL.node (by simp [big]) (RepL.nil _)) (.mk hn2 (fun _ h => by simp at h)) (by simp [cost, costL])⟩) (Env.le_cons rfl (Env.le_cons rfl (Env.le_cons rfl (Env.le_cons rfl (Env.le_cons rfl (Env.le_cons rfl (Env.le_nil _))))))) rfl (by (repeat (first | exact Sub.refl _ | (apply Sub.pick; focus (repeat (first | exact Find.head _ | apply Find.tail))) | apply Sub.drop | exact Sub.tailApp _ _)))
                · refine rj_store_slc (sz := 4) (n := rest.length + 1) (j := rest.length * 4 + 3) ⟨Try.isAgg24, Try.sizeOf24⟩ (wn0 rfl) rfl rfl (by (first | rfl | assumption | (apply cutV_one; assumption))) (by ((repeat (first | exact Find.head _ | apply Find.tail)); done)) (by rw [hdrs_len]; simp; omega) (hdrs_set (vt, ks, css) rest _ (ks ++ [Nd.mk 0 n [] []]) (css ++ [[.int .i64 0, .int .u64 ((n : Nat) : Int), .string (str []), .slice none 0 0]])) (by omega) ?_
                  refine rj_tj ?_
                  refine tj_all (rs := [11]) (by kernel_rfl) (by decide) ⟨⟨_, rfl, ?_⟩, trivial⟩
                  refine rj_stores_slc (sz := 4) (n := (ks ++ [Nd.mk 0 n [] []]).length) (j := ks.length * 4) ⟨Try.isAgg26, Try.sizeOf26⟩ rfl (wn0 rfl) rfl rfl (by (first | (simp [Value.oneCell']; done) | (intro u hu; simp only [List.mem_cons, List.not_mem_nil, or_false] at hu; rcases hu with rfl | rfl | rfl | rfl <;> first | rfl | assumption))) (by ((repeat (first | exact Find.head _ | apply Find.tail)); done)) (by rw [List.length_append, hkf.flat]; exact Nat.le_refl _) (flat_set hkf vt rfl rfl) (by simp) ?_
                  refine rj_tj ?_
                  refine tj_done (by kernel_rfl) ?_
                  refine ej_join hJ25 ((v, (v46, ks ++ [Nd.mk 0 n [] []], css ++ [[.int .i64 0, .int .u64 ((n : Nat) : Int), .string (str []), .slice none 0 0]]), rest, R1)) (⟨hR1, hT.push (RepL.node (by simp [big]) (RepL.nil _)) (.mk hn2 (fun _ h => by simp at h)) (by simp [cost, costL])⟩) (Env.le_cons rfl (Env.le_cons rfl (Env.le_cons rfl (Env.le_cons rfl (Env.le_cons rfl (Env.le_cons rfl (Env.le_nil _))))))) rfl (by (repeat (first | exact Sub.refl _ | (apply Sub.pick; focus (repeat (first | exact Find.head _ | apply Find.tail))) | apply Sub.drop | exact Sub.tailApp _ _)))
            · refine rj_val (wn0 rfl) rfl rfl ((y_fieldAddr_slc (k := 3) Try.underlying26 rfl (m := 1) (by decide) Try.sizeOf24 rfl (by ((repeat (first | exact Find.head _ | apply Find.tail)); done)) (by omega))) ?_
              refine rj_tj ?_
              refine tj_all (rs := [10, 14]) (by kernel_rfl) (by decide) ⟨⟨_, rfl, ?_⟩, ⟨_, rfl, ?_⟩, trivial⟩
              · refine rj_val (wn0 rfl) rfl rfl ((y_index_slc (sz := 4) (n := (ks ++ [Nd.mk 0 n [] []]).length) Try.underlying24 Try.sizeOf26 rfl rfl (by ((repeat (first | exact Find.head _ | apply Find.tail)); done)) (by simp; omega))) ?_
                refine rj_tj ?_
                refine tj_all (rs := [11, 14]) (by kernel_rfl) (by decide) ⟨⟨_, rfl, ?_⟩, ⟨_, rfl, ?_⟩, trivial⟩
                · refine rj_stores_slc (sz := 4) (n := (ks ++ [Nd.mk 0 n [] []]).length) (j := ks.length * 4) ⟨Try.isAgg26, Try.sizeOf26⟩ rfl (wn0 rfl) rfl rfl (by (first | (simp [Value.oneCell']; done) | (intro u hu; simp only [List.mem_cons, List.not_mem_nil, or_false] at hu; rcases hu with rfl | rfl | rfl | rfl <;> first | rfl | assumption))) (by ((repeat (first | exact Find.head _ | apply Find.tail)); done)) (by rw [List.length_append, hkf.flat]; exact Nat.le_refl _) (flat_set hkf vt rfl rfl) (by simp) ?_
                  refine rj_tj ?_
                  refine tj_all (rs := [14]) (by kernel_rfl) (by decide) ⟨⟨_, rfl, ?_⟩, trivial⟩
                  refine rj_store_slc (sz := 4) (n := rest.length + 1) (j := rest.length * 4 + 3) ⟨Try.isAgg24, Try.sizeOf24⟩ (wn0 rfl) rfl rfl (by (first | rfl | assumption | (apply cutV_one; assumption))) (by ((repeat (first | exact Find.head _ | apply Find.tail)); done)) (by rw [hdrs_len]; simp; omega) (hdrs_set (vt, ks, css) rest _ (ks ++ [Nd.mk 0 n [] []]) (css ++ [[.int .i64 0, .int .u64 ((n : Nat) : Int), .string (str []), .slice none 0 0]])) (by omega) ?_
                  refine rj_tj ?_
                  refine tj_done (by kernel_rfl) ?_
                  refine ej_join hJ25 ((v, (v46, ks ++ [Nd.mk 0 n [] []], css ++ [[.int .i64 0, .int .u64 ((n : Nat) : Int), .string (str []), .slice none 0 0]]), rest, R1)) (⟨hR1, hT.push (RepL.node (by simp [big]) (RepL.nil _)) (.mk hn2 (fun _ h => by simp at h)) (by simp [cost, costL])⟩) (Env.le_cons rfl (Env.le_cons rfl (Env.le_cons rfl (Env.le_cons rfl (Env.le_cons rfl (Env.le_cons rfl (Env.le_nil _))))))) rfl (by (repeat (first | exact Sub.refl _ | (apply Sub.pick; focus (repeat (first | exact Find.head _ | apply Find.tail))) | apply Sub.drop | exact Sub.tailApp _ _)))
                · refine rj_store_slc (sz := 4) (n := rest.length + 1) (j := rest.length * 4 + 3) ⟨Try.isAgg24, Try.sizeOf24⟩ (wn0 rfl) rfl rfl (by (first | rfl | assumption | (apply cutV_one; assumption))) (by ((repeat (first | exact Find.head _ | apply Find.tail)); done)) (by rw [hdrs_len]; simp; omega) (hdrs_set (vt, ks, css) rest _ (ks ++ [Nd.mk 0 n [] []]) (css ++ [[.int .i64 0, .int .u64 ((n : Nat) : Int), .string (str []), .slice none 0 0]])) (by omega) ?_
                  refine rj_tj ?_
                  refine tj_all (rs := [11]) (by kernel_rfl) (by decide) ⟨⟨_, rfl, ?_⟩, trivial⟩
                  refine rj_stores_slc (sz := 4) (n := (ks ++ [Nd.mk 0 n [] []]).length) (j := ks.length * 4) ⟨Try.isAgg26, Try.sizeOf26⟩ rfl (wn0 rfl) rfl rfl (by (first | (simp [Value.oneCell']; done) | (intro u hu; simp only [List.mem_cons, List.not_mem_nil, or_false] at hu; rcases hu with rfl | rfl | rfl | rfl <;> first | rfl | assumption))) (by ((repeat (first | exact Find.head _ | apply Find.tail)); done)) (by rw [List.length_append, hkf.flat]; exact Nat.le_refl _) (flat_set hkf vt rfl rfl) (by simp) ?_
                  refine rj_tj ?_
                  refine tj_done (by kernel_rfl) ?_
                  refine ej_join hJ25 ((v, (v46, ks ++ [Nd.mk 0 n [] []], css ++ [[.int .i64 0, .int .u64 ((n : Nat) : Int), .string (str []), .slice none 0 0]]), rest, R1)) (⟨hR1, hT.push (RepL.node (by simp [big]) (RepL.nil _)) (.mk hn2 (fun _ h => by simp at h)) (by simp [cost, costL])⟩) (Env.le_cons rfl (Env.le_cons rfl (Env.le_cons rfl (Env.le_cons rfl (Env.le_cons rfl (Env.le_cons rfl (Env.le_nil _))))))) rfl (by (repeat (first | exact Sub.refl _ | (apply Sub.pick; focus (repeat (first | exact Find.head _ | apply Find.tail))) | apply Sub.drop | exact Sub.tailApp _ _)))
              · refine rj_store_slc (sz := 4) (n := rest.length + 1) (j := rest.length * 4 + 3) ⟨Try.isAgg24, Try.sizeOf24⟩ (wn0 rfl) rfl rfl (by (first | rfl | assumption | (apply cutV_one; assumption))) (by ((repeat (first | exact Find.head _ | apply Find.tail)); done)) (by rw [hdrs_len]; simp; omega) (hdrs_set (vt, ks, css) rest _ (ks ++ [Nd.mk 0 n [] []]) (css ++ [[.int .i64 0, .int .u64 ((n : Nat) : Int), .string (str []), .slice none 0 0]])) (by omega) ?_
                refine rj_tj ?_
                refine tj_all (rs := [10]) (by kernel_rfl) (by decide) ⟨⟨_, rfl, ?_⟩, trivial⟩
                refine rj_val (wn0 rfl) rfl rfl ((y_index_slc (sz := 4) (n := (ks ++ [Nd.mk 0 n [] []]).length) Try.underlying24 Try.sizeOf26 rfl rfl (by ((repeat (first | exact Find.head _ | apply Find.tail)); done)) (by simp; omega))) ?_
                refine rj_tj ?_
                refine tj_all (rs := [11]) (by kernel_rfl) (by decide) ⟨⟨_, rfl, ?_⟩, trivial⟩
                refine rj_stores_slc (sz := 4) (n := (ks ++ [Nd.mk 0 n [] []]).length) (j := ks.length * 4) ⟨Try.isAgg26, Try.sizeOf26⟩ rfl (wn0 rfl) rfl rfl (by (first | (simp [Value.oneCell']; done) | (intro u hu; simp only [List.mem_cons, List.not_mem_nil, or_false] at hu; rcases hu with rfl | rfl | rfl | rfl <;> first | rfl | assumption))) (by ((repeat (first | exact Find.head _ | apply Find.tail)); done)) (by rw [List.length_append, hkf.flat]; exact Nat.le_refl _) (flat_set hkf vt rfl rfl) (by simp) ?_
                refine rj_tj ?_
                refine tj_done (by kernel_rfl) ?_
                refine ej_join hJ25 ((v, (v46, ks ++ [Nd.mk 0 n [] []], css ++ [[.int .i64 0, .int .u64 ((n : Nat) : Int), .string (str []), .slice none 0 0]]), rest, R1)) (⟨hR1, hT.push (RepL.node (by simp [big]) (RepL.nil _)) (.mk hn2 (fun _ h => by simp at h)) (by simp [cost, costL])⟩) (Env.le_cons rfl (Env.le_cons rfl (Env.le_cons rfl (Env.le_cons rfl (Env.le_cons rfl (Env.le_cons rfl (Env.le_nil _))))))) rfl (by (repeat (first | exact Sub.refl _ | (apply Sub.pick; focus (repeat (first | exact Find.head _ | apply Find.tail))) | apply Sub.drop | exact Sub.tailApp _ _)))
        · try simp only [decide_eq_true_eq, decide_eq_false_iff_not, Bool.not_eq_true', Bool.not_eq_false', Bool.true_eq_false, Bool.false_eq_true] at hc35
          refine cj_seq (fun K23 hK23 => ?_)
          refine cj_region ?_
          refine rj_val (wn0 rfl) rfl rfl (y_eql rfl rfl) ?_
          refine rj_val (wn0 rfl) rfl rfl (y_assign rfl) ?_
          refine rj_nil ?_
          refine hK23 _ _ _ ?_
          refine cj_env (Env.le_cons (t := 2) rfl (Env.le_cons (t := 4) rfl (Env.le_cons (t := 5) rfl (Env.le_cons (t := 7) rfl (Env.le_cons (t := 8) rfl (Env.le_cons (t := 17) rfl (Env.le_cons (t := 18) rfl (Env.le_cons (t := 19) rfl (Env.le_cons (t := 34) rfl (Env.le_cons (t := 50) rfl (Env.le_nil _))))))))))) ?_
          refine cj_cond rfl (fun hc50 => ?_) (fun hc50 => ?_)
          · try simp only [decide_eq_true_eq, decide_eq_false_iff_not, Bool.not_eq_true', Bool.not_eq_false', Bool.true_eq_false, Bool.false_eq_true] at hc50
            refine cj_mixt (L := [blk b7 [.int .i64 what, .int .u64 ((n : Nat) : Int), .string (str s)] 63, slc 26 4 v (rest.length + 1) (hdrs ((vt, ks, css) :: rest)), frA (vt, ks, css)]) [0, 1, 2, 3, 4, 5, 6, 7] [8] [9, 10, 11, 12, 13, 14] _ (by (repeat (first | exact Sub.refl _ | (apply Sub.pick; focus (repeat (first | exact Find.head _ | apply Find.tail))) | apply Sub.drop | exact Sub.tailApp _ _))) (by kernel_rfl) (by kernel_rfl) ?_
            refine fj_val rfl rfl rfl (wn0 rfl) (fun R1 hR1 G => (y_move rfl)) ?_
            refine fj_val rfl rfl rfl (wn0 rfl) (fun R1 hR1 G => (y_nilCheck_slc (sz := 4) (n := rest.length + 1) rfl (by ((repeat (first | exact Find.head _ | apply Find.tail)); done)) (by omega))) ?_
            refine fj_val rfl rfl rfl (wn0 rfl) (fun R1 hR1 G => (y_fieldAddr_slc (k := 3) Try.underlying26 rfl (m := 1) (by decide) Try.sizeOf24 rfl (by ((repeat (first | exact Find.head _ | apply Find.tail)); done)) (by omega))) ?_
            refine fj_val rfl rfl rfl (wn0 rfl) (fun R1 hR1 G => (y_load_slc ⟨Try.isAgg24, Try.sizeOf24⟩ rfl (by ((repeat (first | exact Find.head _ | apply Find.tail)); done)) (hdrs_kids (vt, ks, css) rest))) ?_
            refine fj_val rfl rfl rfl (wn0 rfl) (fun R1 hR1 G => (y_fieldAddr (k := 2) Try.underlying63 rfl (n := 1) (by decide) Try.sizeOf9 rfl)) ?_
            first | refine fj_val rfl rfl rfl (wn0 rfl) (fun R1 hR1 G => (y_load ⟨Try.isAgg9, Try.sizeOf9⟩ rfl (by ((repeat (first | exact Find.head _ | apply Find.tail)); done)) rfl)) ?_ | refine fj_val rfl rfl rfl (wn0 rfl) (fun R1 hR1 G => (y_load_slc ⟨Try.isAgg9, Try.sizeOf9⟩ rfl (by ((repeat (first | exact Find.head _ | apply Find.tail)); done)) rfl)) ?_
            refine fj_val rfl rfl rfl (wn0 rfl) (fun R1 hR1 G => (y_build (cells := [_, _, _, _]) [(0, 1), (1, 1), (2, 1), (3, 1)] Try.underlying26 Try.zeroValue26 (fun _ => rfl) rfl rfl)) ?_
            refine fj_val rfl rfl rfl (wn0 rfl) (fun R1 hR1 G => (y_len_slc Try.underlying24 rfl (by ((repeat (first | exact Find.head _ | apply Find.tail)); done)))) ?_
            refine fj_nil ?_
            refine xj_rj rfl ?_
            try simp only [List.cons_append, List.nil_append, List.append_nil]
            refine rj_buildSlice (sz := 4) (wn0 rfl) rfl Try.underlying24 Try.sizeOf26 Try.zeroValue26 rfl rfl rfl (by decide) (by decide) (fun bz => ?_)
            refine rj_xk (by (first | exact Hp.le_refl _ | assumption | exact Hp.le_trans ‹_› ‹_›)) (by (repeat (first | exact Sub.refl _ | (apply Sub.pick; focus (repeat (first | exact Find.head _ | apply Find.tail))) | apply Sub.drop | exact Sub.tailApp _ _))) ?_
            refine xj_nil ?_
            try simp only [List.cons_append, List.nil_append, List.append_nil]
            refine tj_all (rs := [9]) (by kernel_rfl) (by decide) ⟨⟨_, rfl, ?_⟩, trivial⟩
            refine rj_append (sz := 4) (by_ := 56) ⟨Try.underlying24, _, _, rfl, rfl, rfl, rfl, rfl⟩ (wn0 rfl) rfl rfl rfl (by ((repeat (first | exact Find.head _ | apply Find.tail)); done)) (src_slc (xs := [.int .i64 0, .int .u64 0, .string (str []), .slice none 0 0]) Try.underlying24 (by ((repeat (first | exact Find.head _ | apply Find.tail)); done)) (by (first | (simp [Value.oneCell']; done) | (intro u hu; simp only [List.mem_cons, List.not_mem_nil, or_false] at hu; rcases hu with rfl | rfl | rfl | rfl <;> first | rfl | assumption)))) rfl (by (first | omega | (dsimp only; omega) | (simp; done) | (simp; omega))) (by simp only [maxLen]; omega) (fun v61 ho61 hh61 => ?_)
            rw [len_snoc ks (Nd.mk 1 0 s [])]
            refine rj_tj ?_
            refine tj_all (rs := [10, 12]) (by kernel_rfl) (by decide) ⟨⟨_, rfl, ?_⟩, ⟨_, rfl, ?_⟩, trivial⟩
            · refine rj_val (wn0 rfl) rfl rfl ((y_index_slc (sz := 4) (n := (ks ++ [Nd.mk 1 0 s []]).length) Try.underlying24 Try.sizeOf26 rfl rfl (by ((repeat (first | exact Find.head _ | apply Find.tail)); done)) (by simp; omega))) ?_
              refine rj_tj ?_
              refine tj_all (rs := [11, 12]) (by kernel_rfl) (by decide) ⟨⟨_, rfl, ?_⟩, ⟨_, rfl, ?_⟩, trivial⟩
              · refine rj_stores_slc (sz := 4) (n := (ks ++ [Nd.mk 1 0 s []]).length) (j := ks.length * 4) ⟨Try.isAgg26, Try.sizeOf26⟩ rfl (wn0 rfl) rfl rfl (by (first | (simp [Value.oneCell']; done) | (intro u hu; simp only [List.mem_cons, List.not_mem_nil, or_false] at hu; rcases hu with rfl | rfl | rfl | rfl <;> first | rfl | assumption))) (by ((repeat (first | exact Find.head _ | apply Find.tail)); done)) (by rw [List.length_append, hkf.flat]; exact Nat.le_refl _) (flat_set hkf vt rfl rfl) (by simp) ?_
                refine rj_tj ?_
                refine tj_all (rs := [12]) (by kernel_rfl) (by decide) ⟨⟨_, rfl, ?_⟩, trivial⟩
                refine rj_val (wn0 rfl) rfl rfl ((y_nilCheck_slc (sz := 4) (n := rest.length + 1) rfl (by ((repeat (first | exact Find.head _ | apply Find.tail)); done)) (by omega))) ?_
                refine rj_tj ?_
                refine tj_all (rs := [13]) (by kernel_rfl) (by decide) ⟨⟨_, rfl, ?_⟩, trivial⟩
                refine rj_val (wn0 rfl) rfl rfl ((y_fieldAddr_slc (k := 3) Try.underlying26 rfl (m := 1) (by decide) Try.sizeOf24 rfl (by ((repeat (first | exact Find.head _ | apply Find.tail)); done)) (by omega))) ?_
                refine rj_tj ?_
                refine tj_all (rs := [14]) (by kernel_rfl) (by decide) ⟨⟨_, rfl, ?_⟩, trivial⟩
                refine rj_store_slc (sz := 4) (n := rest.length + 1) (j := rest.length * 4 + 3) ⟨Try.isAgg24, Try.sizeOf24⟩ (wn0 rfl) rfl rfl (by (first | rfl | assumption | (apply cutV_one; assumption))) (by ((repeat (first | exact Find.head _ | apply Find.tail)); done)) (by rw [hdrs_len]; simp; omega) (hdrs_set (vt, ks, css) rest _ (ks ++ [Nd.mk 1 0 s []]) (css ++ [[.int .i64 1, .int .u64 0, .string (str s), .slice none 0 0]])) (by omega) ?_
                refine rj_tj ?_
                refine tj_done (by kernel_rfl) ?_
                refine ej_join hJ25 ((v, (v61, ks ++ [Nd.mk 1 0 s []], css ++ [[.int .i64 1, .int .u64 0, .string (str s), .slice none 0 0]]), rest, R1)) (⟨hR1, hT.push (RepL.node hsb (RepL.nil _)) (.mk (by omega) (fun _ h => by simp at h)) (by simp [cost, costL]; omega)⟩) (Env.le_cons rfl (Env.le_cons rfl (Env.le_cons rfl (Env.le_cons rfl (Env.le_cons rfl (Env.le_cons rfl (Env.le_nil _))))))) rfl (by (repeat (first | exact Sub.refl _ | (apply Sub.pick; focus (repeat (first | exact Find.head _ | apply Find.tail))) | apply Sub.drop | exact Sub.tailApp _ _)))
              · refine rj_val (wn0 rfl) rfl rfl ((y_nilCheck_slc (sz := 4) (n := rest.length + 1) rfl (by ((repeat (first | exact Find.head _ | apply Find.tail)); done)) (by omega))) ?_
                refine rj_tj ?_
                refine tj_all (rs := [11, 13]) (by kernel_rfl) (by decide) ⟨⟨_, rfl, ?_⟩, ⟨_, rfl, ?_⟩, trivial⟩
                · refine rj_stores_slc (sz := 4) (n := (ks ++ [Nd.mk 1 0 s []]).length) (j := ks.length * 4) ⟨Try.isAgg26, Try.sizeOf26⟩ rfl (wn0 rfl) rfl rfl (by (first | (simp [Value.oneCell']; done) | (intro u hu; simp only [List.mem_cons, List.not_mem_nil, or_false] at hu; rcases hu with rfl | rfl | rfl | rfl <;> first | rfl | assumption))) (by ((repeat (first | exact Find.head _ | apply Find.tail)); done)) (by rw [List.length_append, hkf.flat]; exact Nat.le_refl _) (flat_set hkf vt rfl rfl) (by simp) ?_
                  refine rj_tj ?_
                  refine tj_all (rs := [13]) (by kernel_rfl) (by decide) ⟨⟨_, rfl, ?_⟩, trivial⟩
                  refine rj_val (wn0 rfl) rfl rfl ((y_fieldAddr_slc (k := 3) Try.underlying26 rfl (m := 1) (by decide) Try.sizeOf24 rfl (by ((repeat (first | exact Find.head _ | apply Find.tail)); done)) (by omega))) ?_
                  refine rj_tj ?_
                  refine tj_all (rs := [14]) (by kernel_rfl) (by decide) ⟨⟨_, rfl, ?_⟩, trivial⟩
                  refine rj_store_slc (sz := 4) (n := rest.length + 1) (j := rest.length * 4 + 3) ⟨Try.isAgg24, Try.sizeOf24⟩ (wn0 rfl) rfl rfl (by (first | rfl | assumption | (apply cutV_one; assumption))) (by ((repeat (first | exact Find.head _ | apply Find.tail)); done)) (by rw [hdrs_len]; simp; omega) (hdrs_set (vt, ks, css) rest _ (ks ++ [Nd.mk 1 0 s []]) (css ++ [[.int .i64 1, .int .u64 0, .string (str s), .slice none 0 0]])) (by omega) ?_
                  refine rj_tj ?_
                  refine tj_done (by kernel_rfl) ?_
                  refine ej_join hJ25 ((v, (v61, ks ++ [Nd.mk 1 0 s []], css ++ [[.int .i64 1, .int .u64 0, .string (str s), .slice none 0 0]]), rest, R1)) (⟨hR1, hT.push (RepL.node hsb (RepL.nil _)) (.mk (by omega) (fun _ h => by simp at h)) (by simp [cost, costL]; omega)⟩) (Env.le_cons rfl (Env.le_cons rfl (Env.le_cons rfl (Env.le_cons rfl (Env.le_cons rfl (Env.le_cons rfl (Env.le_nil _))))))) rfl (by (repeat (first | exact Sub.refl _ | (apply Sub.pick; focus (repeat (first | exact Find.head _ | apply Find.tail))) | apply Sub.drop | exact Sub.tailApp _ _)))
                · refine rj_val (wn0 rfl) rfl rfl ((y_fieldAddr_slc (k := 3) Try.underlying26 rfl (m := 1) (by decide) Try.sizeOf24 rfl (by ((repeat (first | exact Find.head _ | apply Find.tail)); done)) (by omega))) ?_
                  refine rj_tj ?_
                  refine tj_all (rs := [11, 14]) (by kernel_rfl) (by decide) ⟨⟨_, rfl, ?_⟩, ⟨_, rfl, ?_⟩, trivial⟩
                  · refine rj_stores_slc (sz := 4) (n := (ks ++ [Nd.mk 1 0 s []]).length) (j := ks.length * 4) ⟨Try.isAgg26, Try.sizeOf26⟩ rfl (wn0 rfl) rfl rfl (by (first | (simp [Value.oneCell']; done) | (intro u hu; simp only [List.mem_cons, List.not_mem_nil, or_false] at hu; rcases hu with rfl | rfl | rfl | rfl <;> first | rfl | assumption))) (by ((repeat (first | exact Find.head _ | apply Find.tail)); done)) (by rw [List.length_append, hkf.flat]; exact Nat.le_refl _) (flat_set hkf vt rfl rfl) (by simp) ?_
                    refine rj_tj ?_
                    refine tj_all (rs := [14]) (by kernel_rfl) (by decide) ⟨⟨_, rfl, ?_⟩, trivial⟩
                    refine rj_store_slc (sz := 4) (n := rest.length + 1) (j := rest.length * 4 + 3) ⟨Try.isAgg24, Try.sizeOf24⟩ (wn0 rfl) rfl rfl (by (first | rfl | assumption | (apply cutV_one; assumption))) (by ((repeat (first | exact Find.head _ | apply Find.tail)); done)) (by rw [hdrs_len]; simp; omega) (hdrs_set (vt, ks, css) rest _ (ks ++ [Nd.mk 1 0 s []]) (css ++ [[.int .i64 1, .int .u64 0, .string (str s), .slice none 0 0]])) (by omega) ?_
                    refine rj_tj ?_
                    refine tj_done (by kernel_rfl) ?_
                    refine ej_join hJ25 ((v, (v61, ks ++ [Nd.mk 1 0 s []], css ++ [[.int .i64 1, .int .u64 0, .string (str s), .slice none 0 0]]), rest, R1)) (⟨hR1, hT.push (RepL.node hsb (RepL.nil _)) (.mk (by omega) (fun _ h => by simp at h)) (by simp [cost, costL]; omega)⟩) (Env.le_cons rfl (Env.le_cons rfl (Env.le_cons rfl (Env.le_cons rfl (Env.le_cons rfl (Env.le_cons rfl (Env.le_nil _))))))) rfl (by (repeat (first | exact Sub.refl _ | (apply Sub.pick; focus (repeat (first | exact Find.head _ | apply Find.tail))) | apply Sub.drop | exact Sub.tailApp _ _)))
                  · refine rj_store_slc (sz := 4) (n := rest.length + 1) (j := rest.length * 4 + 3) ⟨Try.isAgg24, Try.sizeOf24⟩ (wn0 rfl) rfl rfl (by (first | rfl | assumption | (apply cutV_one; assumption))) (by ((repeat (first | exact Find.head _ | apply Find.tail)); done)) (by rw [hdrs_len]; simp; omega) (hdrs_set (vt, ks, css) rest _ (ks ++ [Nd.mk 1 0 s []]) (css ++ [[.int .i64 1, .int .u64 0, .string (str s), .slice none 0 0]])) (by omega) ?_
                    refine rj_tj ?_
                    refine tj_all (rs := [11]) (by kernel_rfl) (by decide) ⟨⟨_, rfl, ?_⟩, trivial⟩
                    refine rj_stores_slc (sz := 4) (n := (ks ++ [Nd.mk 1 0 s []]).length) (j := ks.length * 4) ⟨Try.isAgg26, Try.sizeOf26⟩ rfl (wn0 rfl) rfl rfl (by (first | (simp [Value.oneCell']; done) | (intro u hu; simp only [List.mem_cons, List.not_mem_nil, or_false] at hu; rcases hu with rfl | rfl | rfl | rfl <;> first | rfl | assumption))) (by ((repeat (first | exact Find.head _ | apply Find.tail)); done)) (by rw [List.length_append, hkf.flat]; exact Nat.le_refl _) (flat_set hkf vt rfl rfl) (by simp) ?_
                    refine rj_tj ?_
                    refine tj_done (by kernel_rfl) ?_
                    refine ej_join hJ25 ((v, (v61, ks ++ [Nd.mk 1 0 s []], css ++ [[.int .i64 1, .int .u64 0, .string (str s), .slice none 0 0]]), rest, R1)) (⟨hR1, hT.push (RepL.node hsb (RepL.nil _)) (.mk (by omega) (fun _ h => by simp at h)) (by simp [cost, costL]; omega)⟩) (Env.le_cons rfl (Env.le_cons rfl (Env.le_cons rfl (Env.le_cons rfl (Env.le_cons rfl (Env.le_cons rfl (Env.le_nil _))))))) rfl (by (repeat (first | exact Sub.refl _ | (apply Sub.pick; focus (repeat (first | exact Find.head _ | apply Find.tail))) | apply Sub.drop | exact Sub.tailApp _ _)))
            · refine rj_val (wn0 rfl) rfl rfl ((y_nilCheck_slc (sz := 4) (n := rest.length + 1) rfl (by ((repeat (first | exact Find.head _ | apply Find.tail)); done)) (by omega))) ?_
              refine rj_tj ?_
              refine tj_all (rs := [10, 13]) (by kernel_rfl) (by decide) ⟨⟨_, rfl, ?_⟩, ⟨_, rfl, ?_⟩, trivial⟩
              · refine rj_val (wn0 rfl) rfl rfl ((y_index_slc (sz := 4) (n := (ks ++ [Nd.mk 1 0 s []]).length) Try.underlying24 Try.sizeOf26 rfl rfl (by ((repeat (first | exact Find.head _ | apply Find.tail)); done)) (by simp; omega))) ?_
                refine rj_tj ?_
                refine tj_all (rs := [11, 13]) (by kernel_rfl) (by decide) ⟨⟨_, rfl, ?_⟩, ⟨_, rfl, ?_⟩, trivial⟩
                · refine rj_stores_slc (sz := 4) (n := (ks ++ [Nd.mk 1 0 s []]).length) (j := ks.length * 4) ⟨Try.isAgg26, Try.sizeOf26⟩ rfl (wn0 rfl) rfl rfl (by (first | (simp [Value.oneCell']; done) | (intro u hu; simp only [List.mem_cons, List.not_mem_nil, or_false] at hu; rcases hu with rfl | rfl | rfl | rfl <;> first | rfl | assumption))) (by ((repeat (first | exact Find.head _ | apply Find.tail)); done)) (by rw [List.length_append, hkf.flat]; exact Nat.le_refl _) (flat_set hkf vt rfl rfl) (by simp) ?_
                  refine rj_tj ?_
                  refine tj_all (rs := [13]) (by kernel_rfl) (by decide) ⟨⟨_, rfl, ?_⟩, trivial⟩
                  refine rj_val (wn0 rfl) rfl rfl ((y_fieldAddr_slc (k := 3) Try.underlying26 rfl (m := 1) (by decide) Try.sizeOf24 rfl (by ((repeat (first | exact Find.head _ | apply Find.tail)); done)) (by omega))) ?_
                  refine rj_tj ?_
                  refine tj_all (rs := [14]) (by kernel_rfl) (by decide) ⟨⟨_, rfl, ?_⟩, trivial⟩
                  refine rj_store_slc (sz := 4) (n := rest.length + 1) (j := rest.length * 4 + 3) ⟨Try.isAgg24, Try.sizeOf24⟩ (wn0 rfl) rfl rfl (by (first | rfl | assumption | (apply cutV_one; assumption))) (by ((repeat (first | exact Find.head _ | apply Find.tail)); done)) (by rw [hdrs_len]; simp; omega) (hdrs_set (vt, ks, css) rest _ (ks ++ [Nd.mk 1 0 s []]) (css ++ [[.int .i64 1, .int .u64 0, .string (str s), .slice none 0 0]])) (by omega) ?_
                  refine rj_tj ?_
                  refine tj_done (by kernel_rfl) ?_
                  refine ej_join hJ25 ((v, (v61, ks ++ [Nd.mk 1 0 s []], css ++ [[.int .i64 1, .int .u64 0, .string (str s), .slice none 0 0]]), rest, R1)) (⟨hR1, hT.push (RepL.node hsb (RepL.nil _)) (.mk (by omega) (fun _ h => by simp at h)) (by simp [cost, costL]; omega)⟩) (Env.le_cons rfl (Env.le_cons rfl (Env.le_cons rfl (Env.le_cons rfl (Env.le_cons rfl (Env.le_cons rfl (Env.le_nil _))))))) rfl (by (repeat (first | exact Sub.refl _ | (apply Sub.pick; focus (repeat (first | exact Find.head _ | apply Find.tail))) | apply Sub.drop | exact Sub.tailApp _ _)))
                · refine rj_val (wn0 rfl) rfl rfl ((y_fieldAddr_slc (k := 3) Try.underlying26 rfl (m := 1) (by decide) Try.sizeOf24 rfl (by ((repeat (first | exact Find.head _ | apply Find.tail)); done)) (by omega))) ?_
                  refine rj_tj ?_
                  refine tj_all (rs := [11, 14]) (by kernel_rfl) (by decide) ⟨⟨_, rfl, ?_⟩, ⟨_, rfl, ?_⟩, trivial⟩
                  · refine rj_stores_slc (sz := 4) (n := (ks ++ [Nd.mk 1 0 s []]).length) (j := ks.length * 4) ⟨Try.isAgg26, Try.sizeOf26⟩ rfl (wn0 rfl) rfl rfl (by (first | (simp [Value.oneCell']; done) | (intro u hu; simp only [List.mem_cons, List.not_mem_nil, or_false] at hu; rcases hu with rfl | rfl | rfl | rfl <;> first | rfl | assumption))) (by ((repeat (first | exact Find.head _ | apply Find.tail)); done)) (by rw [List.length_append, hkf.flat]; exact Nat.le_refl _) (flat_set hkf vt rfl rfl) (by simp) ?_
                    refine rj_tj ?_
                    refine tj_all (rs := [14]) (by kernel_rfl) (by decide) ⟨⟨_, rfl, ?_⟩, trivial⟩
                    refine rj_store_slc (sz := 4) (n := rest.length + 1) (j := rest.length * 4 + 3) ⟨Try.isAgg24, Try.sizeOf24⟩ (wn0 rfl) rfl rfl (by (first | rfl | assumption | (apply cutV_one; assumption))) (by ((repeat (first | exact Find.head _ | apply Find.tail)); done)) (by rw [hdrs_len]; simp; omega) (hdrs_set (vt, ks, css) rest _ (ks ++ [Nd.mk 1 0 s []]) (css ++ [[.int .i64 1, .int .u64 0, .string (str s), .slice none 0 0]])) (by omega) ?_
                    refine rj_tj ?_
                    refine tj_done (by kernel_rfl) ?_
                    refine ej_join hJ25 ((v, (v61, ks ++ [Nd.mk 1 0 s []], css ++ [[.int .i64 1, .int .u64 0, .string (str s), .slice none 0 0]]), rest, R1)) (⟨hR1, hT.push (RepL.node hsb (RepL.nil _)) (.mk (by omega) (fun _ h => by simp at h)) (by simp [cost, costL]; omega)⟩) (Env.le_cons rfl (Env.le_cons rfl (Env.le_cons rfl (Env.le_cons rfl (Env.le_cons rfl (Env.le_cons rfl (Env.le_nil _))))))) rfl (by (repeat (first | exact Sub.refl _ | (apply Sub.pick; focus (repeat (first | exact Find.head _ | apply Find.tail))) | apply Sub.drop | exact Sub.tailApp _ _)))
                  · refine rj_store_slc (sz := 4) (n := rest.length + 1) (j := rest.length * 4 + 3) ⟨Try.isAgg24, Try.sizeOf24⟩ (wn0 rfl) rfl rfl (by (first | rfl | assumption | (apply cutV_one; assumption))) (by ((repeat (first | exact Find.head _ | apply Find.tail)); done)) (by rw [hdrs_len]; simp; omega) (hdrs_set (vt, ks, css) rest _ (ks ++ [Nd.mk 1 0 s []]) (css ++ [[.int .i64 1, .int .u64 0, .string (str s), .slice none 0 0]])) (by omega) ?_
                    refine rj_tj ?_
                    refine tj_all (rs := [11]) (by kernel_rfl) (by decide) ⟨⟨_, rfl, ?_⟩, trivial⟩
                    refine rj_stores_slc (sz := 4) (n := (ks ++ [Nd.mk 1 0 s []]).length) (j := ks.length * 4) ⟨Try.isAgg26, Try.sizeOf26⟩ rfl (wn0 rfl) rfl rfl (by (first | (simp [Value.oneCell']; done) | (intro u hu; simp only [List.mem_cons, List.not_mem_nil, or_false] at hu; rcases hu with rfl | rfl | rfl | rfl <;> first | rfl | assumption))) (by ((repeat (first | exact Find.head _ | apply Find.tail)); done)) (by rw [List.length_append, hkf.flat]; exact Nat.le_refl _) (flat_set hkf vt rfl rfl) (by simp) ?_
                    refine rj_tj ?_
                    refine tj_done (by kernel_rfl) ?_
                    refine ej_join hJ25 ((v, (v61, ks ++ [Nd.mk 1 0 s []], css ++ [[.int .i64 1, .int .u64 0, .string (str s), .slice none 0 0]]), rest, R1)) (⟨hR1, hT.push (RepL.node hsb (RepL.nil _)) (.mk (by omega) (fun _ h => by simp at h)) (by simp [cost, costL]; omega)⟩) (Env.le_cons rfl (Env.le_cons rfl (Env.le_cons rfl (Env.le_cons rfl (Env.le_cons rfl (Env.le_cons rfl (Env.le_nil _))))))) rfl (by (repeat (first | exact Sub.refl _ | (apply Sub.pick; focus (repeat (first | exact Find.head _ | apply Find.tail))) | apply Sub.drop | exact Sub.tailApp _ _)))
              · refine rj_val (wn0 rfl) rfl rfl ((y_fieldAddr_slc (k := 3) Try.underlying26 rfl (m := 1) (by decide) Try.sizeOf24 rfl (by ((repeat (first | exact Find.head _ | apply Find.tail)); done)) (by omega))) ?_
                refine rj_tj ?_
                refine tj_all (rs := [10, 14]) (by kernel_rfl) (by decide) ⟨⟨_, rfl, ?_⟩, ⟨_, rfl, ?_⟩, trivial⟩
                · refine rj_val (wn0 rfl) rfl rfl ((y_index_slc (sz := 4) (n := (ks ++ [Nd.mk 1 0 s []]).length) Try.underlying24 Try.sizeOf26 rfl rfl (by ((repeat (first | exact Find.head _ | apply Find.tail)); done)) (by simp; omega))) ?_
                  refine rj_tj ?_
                  refine tj_all (rs := [11, 14]) (by kernel_rfl) (by decide) ⟨⟨_, rfl, ?_⟩, ⟨_, rfl, ?_⟩, trivial⟩
                  · refine rj_stores_slc (sz := 4) (n := (ks ++ [Nd.mk 1 0 s []]).length) (j := ks.length * 4) ⟨Try.isAgg26, Try.sizeOf26⟩ rfl (wn0 rfl) rfl rfl (by (first | (simp [Value.oneCell']; done) | (intro u hu; simp only [List.mem_cons, List.not_mem_nil, or_false] at hu; rcases hu with rfl | rfl | rfl | rfl <;> first | rfl | assumption))) (by ((repeat (first | exact Find.head _ | apply Find.tail)); done)) (by rw [List.length_append, hkf.flat]; exact Nat.le_refl _) (flat_set hkf vt rfl rfl) (by simp) ?_
                    refine rj_tj ?_
                    refine tj_all (rs := [14]) (by kernel_rfl) (by decide) ⟨⟨_, rfl, ?_⟩, trivial⟩
                    refine rj_store_slc (sz := 4) (n := rest.length + 1) (j := rest.length * 4 + 3) ⟨Try.isAgg24, Try.sizeOf24⟩ (wn0 rfl) rfl rfl (by (first | rfl | assumption | (apply cutV_one; assumption))) (by ((repeat (first | exact Find.head _ | apply Find.tail)); done)) (by rw [hdrs_len]; simp; omega) (hdrs_set (vt, ks, css) rest _ (ks ++ [Nd.mk 1 0 s []]) (css ++ [[.int .i64 1, .int .u64 0, .string (str s), .slice none 0 0]])) (by omega) ?_
                    refine rj_tj ?_
                    refine tj_done (by kernel_rfl) ?_
                    refine ej_join hJ25 ((v, (v61, ks ++ [Nd.mk 1 0 s []], css ++ [[.int .i64 1, .int .u64 0, .string (str s), .slice none 0 0]]), rest, R1)) (⟨hR1, hT.push (RepL.node hsb (RepL.nil _)) (.mk (by omega) (fun _ h => by simp at h)) (by simp [cost, costL]; omega)⟩) (Env.le_cons rfl (Env.le_cons rfl (Env.le_cons rfl (Env.le_cons rfl (Env.le_cons rfl (Env.le_cons rfl (Env.le_nil _))))))) rfl (by (repeat (first | exact Sub.refl _ | (apply Sub.pick; focus (repeat (first | exact Find.head _ | apply Find.tail))) | apply Sub.drop | exact Sub.tailApp _ _)))
                  · refine rj_store_slc (sz := 4) (n := rest.length + 1) (j := rest.length * 4 + 3) ⟨Try.isAgg24, Try.sizeOf24⟩ (wn0 rfl) rfl rfl (by (first | rfl | assumption | (apply cutV_one; assumption))) (by ((repeat (first | exact Find.head _ | apply Find.tail)); done)) (by rw [hdrs_len]; simp; omega) (hdrs_set (vt, ks, css) rest _ (ks ++ [Nd.mk 1 0 s []]) (css ++ [[.int .i64 1, .int .u64 0, .string (str s), .slice none 0 0]])) (by omega) ?_
                    refine rj_tj ?_
                    refine tj_all (rs := [11]) (by kernel_rfl) (by decide) ⟨⟨_, rfl, ?_⟩, trivial⟩
                    refine rj_stores_slc (sz := 4) (n := (ks ++ [Nd.mk 1 0 s []]).length) (j := ks.length * 4) ⟨Try.isAgg26, Try.sizeOf26⟩ rfl (wn0 rfl) rfl rfl (by (first | (simp [Value.oneCell']; done) | (intro u hu; simp only [List.mem_cons, List.not_mem_nil, or_false] at hu; rcases hu with rfl | rfl | rfl | rfl <;> first | rfl | assumption))) (by ((repeat (first | exact Find.head _ | apply Find.tail)); done)) (by rw [List.length_append, hkf.flat]; exact Nat.le_refl _) (flat_set hkf vt rfl rfl) (by simp) ?_
                    refine rj_tj ?_
                    refine tj_done (by kernel_rfl) ?_
                    refine ej_join hJ25 ((v, (v61, ks ++ [Nd.mk 1 0 s []], css ++ [[.int .i64 1, .int .u64 0, .string (str s), .slice none 0 0]]), rest, R1)) (⟨hR1, hT.push (RepL.node hsb (RepL.nil _)) (.mk (by omega) (fun _ h => by simp at h)) (by simp [cost, costL]; omega)⟩) (Env.le_cons rfl (Env.le_cons rfl (Env.le_cons rfl (Env.le_cons rfl (Env.le_cons rfl (Env.le_cons rfl (Env.le_nil _))))))) rfl (by (repeat (first | exact Sub.refl _ | (apply Sub.pick; focus (repeat (first | exact Find.head _ | apply Find.tail))) | apply Sub.drop | exact Sub.tailApp _ _)))
                · refine rj_store_slc (sz := 4) (n := rest.length + 1) (j := rest.length * 4 + 3) ⟨Try.isAgg24, Try.sizeOf24⟩ (wn0 rfl) rfl rfl (by (first | rfl | assumption | (apply cutV_one; assumption))) (by ((repeat (first | exact Find.head _ | apply Find.tail)); done)) (by rw [hdrs_len]; simp; omega) (hdrs_set (vt, ks, css) rest _ (ks ++ [Nd.mk 1 0 s []]) (css ++ [[.int .i64 1, .int .u64 0, .string (str s), .slice none 0 0]])) (by omega) ?_
                  refine rj_tj ?_
                  refine tj_all (rs := [10]) (by kernel_rfl) (by decide) ⟨⟨_, rfl, ?_⟩, trivial⟩
                  refine rj_val (wn0 rfl) rfl rfl ((y_index_slc (sz := 4) (n := (ks ++ [Nd.mk 1 0 s []]).length) Try.underlying24 Try.sizeOf26 rfl rfl (by ((repeat (first | exact Find.head _ | apply Find.tail)); done)) (by simp; omega))) ?_
                  refine rj_tj ?_
                  refine tj_all (rs := [11]) (by kernel_rfl) (by decide) ⟨⟨_, rfl, ?_⟩, trivial⟩
                  refine rj_stores_slc (sz := 4) (n := (ks ++ [Nd.mk 1 0 s []]).length) (j := ks.length * 4) ⟨Try.isAgg26, Try.sizeOf26⟩ rfl (wn0 rfl) rfl rfl (by (first | (simp [Value.oneCell']; done) | (intro u hu; simp only [List.mem_cons, List.not_mem_nil, or_false] at hu; rcases hu with rfl | rfl | rfl | rfl <;> first | rfl | assumption))) (by ((repeat (first | exact Find.head _ | apply Find.tail)); done)) (by rw [List.length_append, hkf.flat]; exact Nat.le_refl _) (flat_set hkf vt rfl rfl) (by simp) ?_
                  refine rj_tj ?_
                  refine tj_done (by kernel_rfl) ?_
                  refine ej_join hJ25 ((v, (v61, ks ++ [Nd.mk 1 0 s []], css ++ [[.int .i64 1, .int .u64 0, .string (str s), .slice none 0 0]]), rest, R1)) (⟨hR1, hT.push (RepL.node hsb (RepL.nil _)) (.mk (by omega) (fun _ h => by simp at h)) (by simp [cost, costL]; omega)⟩) (Env.le_cons rfl (Env.le_cons rfl (Env.le_cons rfl (Env.le_cons rfl (Env.le_cons rfl (Env.le_cons rfl (Env.le_nil _))))))) rfl (by (repeat (first | exact Sub.refl _ | (apply Sub.pick; focus (repeat (first | exact Find.head _ | apply Find.tail))) | apply Sub.drop | exact Sub.tailApp _ _)))
          · try simp only [decide_eq_true_eq, decide_eq_false_iff_not, Bool.not_eq_true', Bool.not_eq_false', Bool.true_eq_false, Bool.false_eq_true] at hc50
            refine cj_seq (fun K25 hK25 => ?_)
            refine cj_region ?_
            refine rj_val (wn0 rfl) rfl rfl (y_eql rfl rfl) ?_
            refine rj_val (wn0 rfl) rfl rfl (y_assign rfl) ?_
            refine rj_nil ?_
            refine hK25 _ _ _ ?_
            refine cj_cond rfl (fun hc65 => ?_) (fun hc65 => ?_)
            · try simp only [decide_eq_true_eq, decide_eq_false_iff_not, Bool.not_eq_true', Bool.not_eq_false', Bool.true_eq_false, Bool.false_eq_true] at hc65
              refine cj_mixt (L := [blk b4 [v] 24, slc 26 4 v (rest.length + 1) (hdrs ((vt, ks, css) :: rest))]) [0, 1, 2] [3] [4, 5, 6, 7] _ (by (repeat (first | exact Sub.refl _ | (apply Sub.pick; focus (repeat (first | exact Find.head _ | apply Find.tail))) | apply Sub.drop | exact Sub.tailApp _ _))) (by kernel_rfl) (by kernel_rfl) ?_
              first | refine fj_val rfl rfl rfl (wn0 rfl) (fun R1 hR1 G => (y_load ⟨Try.isAgg24, Try.sizeOf24⟩ rfl (by ((repeat (first | exact Find.head _ | apply Find.tail)); done)) rfl)) ?_ | refine fj_val rfl rfl rfl (wn0 rfl) (fun R1 hR1 G => (y_load_slc ⟨Try.isAgg24, Try.sizeOf24⟩ rfl (by ((repeat (first | exact Find.head _ | apply Find.tail)); done)) rfl)) ?_
              refine fj_val rfl rfl rfl (wn0 rfl) (fun R1 hR1 G => (y_build (cells := [_, _, _, _]) [(0, 1), (1, 1), (2, 1), (3, 1)] Try.underlying26 Try.zeroValue26 (fun _ => rfl) rfl rfl)) ?_
              refine fj_val rfl rfl rfl (wn0 rfl) (fun R1 hR1 G => (y_len_slc Try.underlying24 rfl (by ((repeat (first | exact Find.head _ | apply Find.tail)); done)))) ?_
              refine fj_nil ?_
              refine xj_rj rfl ?_
              try simp only [List.cons_append, List.nil_append, List.append_nil]
              refine rj_buildSlice (sz := 4) (wn0 rfl) rfl Try.underlying24 Try.sizeOf26 Try.zeroValue26 rfl rfl rfl (by decide) (by decide) (fun bz => ?_)
              refine rj_xk (by (first | exact Hp.le_refl _ | assumption | exact Hp.le_trans ‹_› ‹_›)) (by (repeat (first | exact Sub.refl _ | (apply Sub.pick; focus (repeat (first | exact Find.head _ | apply Find.tail))) | apply Sub.drop | exact Sub.tailApp _ _))) ?_
              refine xj_nil ?_
              try simp only [List.cons_append, List.nil_append, List.append_nil]
              refine tj_all (rs := [4]) (by kernel_rfl) (by decide) ⟨⟨_, rfl, ?_⟩, trivial⟩
              refine rj_append (sz := 4) (by_ := 56) ⟨Try.underlying24, _, _, rfl, rfl, rfl, rfl, rfl⟩ (wn0 rfl) rfl rfl rfl (by ((repeat (first | exact Find.head _ | apply Find.tail)); done)) (src_slc (xs := [.int .i64 0, .int .u64 0, .string (str []), .slice none 0 0]) Try.underlying24 (by ((repeat (first | exact Find.head _ | apply Find.tail)); done)) (by (first | (simp [Value.oneCell']; done) | (intro u hu; simp only [List.mem_cons, List.not_mem_nil, or_false] at hu; rcases hu with rfl | rfl | rfl | rfl <;> first | rfl | assumption)))) rfl (by (first | omega | (dsimp only; omega) | (simp; done) | (simp; omega))) (by simp only [maxLen]; omega) (fun v71 ho71 hh71 => ?_)
              skip
              refine rj_tj ?_
              refine tj_all (rs := [5, 7]) (by kernel_rfl) (by decide) ⟨⟨_, rfl, ?_⟩, ⟨_, rfl, ?_⟩, trivial⟩
              · refine rj_val (wn0 rfl) rfl rfl ((y_index_slc (sz := 4) (n := rest.length + 1 + 1) Try.underlying24 Try.sizeOf26 rfl rfl (by ((repeat (first | exact Find.head _ | apply Find.tail)); done)) (by simp; omega))) ?_
                refine rj_tj ?_
                refine tj_all (rs := [6, 7]) (by kernel_rfl) (by decide) ⟨⟨_, rfl, ?_⟩, ⟨_, rfl, ?_⟩, trivial⟩
                · refine rj_stores_slc (sz := 4) (n := rest.length + 1 + 1) (j := (rest.length + 1) * 4) ⟨Try.isAgg26, Try.sizeOf26⟩ rfl (wn0 rfl) rfl rfl (by (first | (simp [Value.oneCell']; done) | (intro u hu; simp only [List.mem_cons, List.not_mem_nil, or_false] at hu; rcases hu with rfl | rfl | rfl | rfl <;> first | rfl | assumption))) (by ((repeat (first | exact Find.head _ | apply Find.tail)); done)) (by simp [hdrs_len]) (hdrs_push (.slice none 0 0) ((vt, ks, css) :: rest) (m := rest.length + 1) rfl) (by omega) ?_
                  refine rj_add (A := frA (.slice none 0 0, [], [])) (slc_nil _ _) ?_
                  refine rj_tj ?_
                  refine tj_all (rs := [7]) (by kernel_rfl) (by decide) ⟨⟨_, rfl, ?_⟩, trivial⟩
                  refine rj_store ⟨Try.isAgg24, Try.sizeOf24⟩ (wn0 rfl) rfl rfl (by (first | rfl | assumption | (apply cutV_one; assumption))) (by ((repeat (first | exact Find.head _ | apply Find.tail)); done)) rfl rfl ?_
                  refine rj_tj ?_
                  refine tj_done (by kernel_rfl) ?_
                  refine ej_join hJ25 ((v71, (.slice none 0 0, [], []), (vt, ks, css) :: rest, R1)) (⟨hR1, hT.open _⟩) (Env.le_cons rfl (Env.le_cons rfl (Env.le_cons rfl (Env.le_cons rfl (Env.le_cons rfl (Env.le_cons rfl (Env.le_nil _))))))) rfl (by (repeat (first | exact Sub.refl _ | (apply Sub.pick; focus (repeat (first | exact Find.head _ | apply Find.tail))) | apply Sub.drop | exact Sub.tailApp _ _)))
                · refine rj_store ⟨Try.isAgg24, Try.sizeOf24⟩ (wn0 rfl) rfl rfl (by (first | rfl | assumption | (apply cutV_one; assumption))) (by ((repeat (first | exact Find.head _ | apply Find.tail)); done)) rfl rfl ?_
                  refine rj_tj ?_
                  refine tj_all (rs := [6]) (by kernel_rfl) (by decide) ⟨⟨_, rfl, ?_⟩, trivial⟩
                  refine rj_stores_slc (sz := 4) (n := rest.length + 1 + 1) (j := (rest.length + 1) * 4) ⟨Try.isAgg26, Try.sizeOf26⟩ rfl (wn0 rfl) rfl rfl (by (first | (simp [Value.oneCell']; done) | (intro u hu; simp only [List.mem_cons, List.not_mem_nil, or_false] at hu; rcases hu with rfl | rfl | rfl | rfl <;> first | rfl | assumption))) (by ((repeat (first | exact Find.head _ | apply Find.tail)); done)) (by simp [hdrs_len]) (hdrs_push (.slice none 0 0) ((vt, ks, css) :: rest) (m := rest.length + 1) rfl) (by omega) ?_
                  refine rj_add (A := frA (.slice none 0 0, [], [])) (slc_nil _ _) ?_
                  refine rj_tj ?_
                  refine tj_done (by kernel_rfl) ?_
                  refine ej_join hJ25 ((v71, (.slice none 0 0, [], []), (vt, ks, css) :: rest, R1)) (⟨hR1, hT.open _⟩) (Env.le_cons rfl (Env.le_cons rfl (Env.le_cons rfl (Env.le_cons rfl (Env.le_cons rfl (Env.le_cons rfl (Env.le_nil _))))))) rfl (by (repeat (first | exact Sub.refl _ | (apply Sub.pick; focus (repeat (first | exact Find.head _ | apply Find.tail))) | apply Sub.drop | exact Sub.tailApp _ _)))
              · refine rj_store ⟨Try.isAgg24, Try.sizeOf24⟩ (wn0 rfl) rfl rfl (by (first | rfl | assumption | (apply cutV_one; assumption))) (by ((repeat (first | exact Find.head _ | apply Find.tail)); done)) rfl rfl ?_
                refine rj_tj ?_
                refine tj_all (rs := [5]) (by kernel_rfl) (by decide) ⟨⟨_, rfl, ?_⟩, trivial⟩
                refine rj_val (wn0 rfl) rfl rfl ((y_index_slc (sz := 4) (n := rest.length + 1 + 1) Try.underlying24 Try.sizeOf26 rfl rfl (by ((repeat (first | exact Find.head _ | apply Find.tail)); done)) (by simp; omega))) ?_
                refine rj_tj ?_
                refine tj_all (rs := [6]) (by kernel_rfl) (by decide) ⟨⟨_, rfl, ?_⟩, trivial⟩
                refine rj_stores_slc (sz := 4) (n := rest.length + 1 + 1) (j := (rest.length + 1) * 4) ⟨Try.isAgg26, Try.sizeOf26⟩ rfl (wn0 rfl) rfl rfl (by (first | (simp [Value.oneCell']; done) | (intro u hu; simp only [List.mem_cons, List.not_mem_nil, or_false] at hu; rcases hu with rfl | rfl | rfl | rfl <;> first | rfl | assumption))) (by ((repeat (first | exact Find.head _ | apply Find.tail)); done)) (by simp [hdrs_len]) (hdrs_push (.slice none 0 0) ((vt, ks, css) :: rest) (m := rest.length + 1) rfl) (by omega) ?_
                refine rj_add (A := frA (.slice none 0 0, [], [])) (slc_nil _ _) ?_
                refine rj_tj ?_
                refine tj_done (by kernel_rfl) ?_
                refine ej_join hJ25 ((v71, (.slice none 0 0, [], []), (vt, ks, css) :: rest, R1)) (⟨hR1, hT.open _⟩) (Env.le_cons rfl (Env.le_cons rfl (Env.le_cons rfl (Env.le_cons rfl (Env.le_cons rfl (Env.le_cons rfl (Env.le_nil _))))))) rfl (by (repeat (first | exact Sub.refl _ | (apply Sub.pick; focus (repeat (first | exact Find.head _ | apply Find.tail))) | apply Sub.drop | exact Sub.tailApp _ _)))
            · try simp only [decide_eq_true_eq, decide_eq_false_iff_not, Bool.not_eq_true', Bool.not_eq_false', Bool.true_eq_false, Bool.false_eq_true] at hc65
              refine cj_seq (fun K27 hK27 => ?_)
              refine cj_region ?_
              refine rj_val (wn0 rfl) rfl rfl (y_eql rfl rfl) ?_
              refine rj_val (wn0 rfl) rfl rfl (y_assign rfl) ?_
              refine rj_nil ?_
              refine hK27 _ _ _ ?_
              refine cj_env (Env.le_cons (t := 2) rfl (Env.le_cons (t := 4) rfl (Env.le_cons (t := 5) rfl (Env.le_cons (t := 7) rfl (Env.le_cons (t := 8) rfl (Env.le_cons (t := 17) rfl (Env.le_cons (t := 18) rfl (Env.le_cons (t := 19) rfl (Env.le_cons (t := 34) rfl (Env.le_cons (t := 73) rfl (Env.le_nil _))))))))))) ?_
              refine cj_cond rfl (fun hc73 => ?_) (fun hc73 => ?_)
              · try simp only [decide_eq_true_eq, decide_eq_false_iff_not, Bool.not_eq_true', Bool.not_eq_false', Bool.true_eq_false, Bool.false_eq_true] at hc73
                refine cj_seq (fun K29 hK29 => ?_)
                refine cj_region ?_
                first | refine rj_val (wn0 rfl) rfl rfl (y_load ⟨Try.isAgg24, Try.sizeOf24⟩ rfl (by ((repeat (first | exact Find.head _ | apply Find.tail)); done)) rfl) ?_ | refine rj_val (wn0 rfl) rfl rfl (y_load_slc ⟨Try.isAgg24, Try.sizeOf24⟩ rfl (by ((repeat (first | exact Find.head _ | apply Find.tail)); done)) rfl) ?_
                first | refine rj_val (wn0 rfl) rfl rfl (y_len_sl Try.underlying24 rfl) ?_ | refine rj_val (wn0 rfl) rfl rfl (y_len_slc Try.underlying24 rfl (by ((repeat (first | exact Find.head _ | apply Find.tail)); done))) ?_
                refine rj_val (wn0 rfl) rfl rfl (y_gtr rfl rfl) ?_
                refine rj_nil ?_
                refine hK29 _ _ _ ?_
                refine cj_env (Env.le_cons (t := 2) rfl (Env.le_cons (t := 4) rfl (Env.le_cons (t := 5) rfl (Env.le_cons (t := 17) rfl (Env.le_cons (t := 18) rfl (Env.le_cons (t := 19) rfl (Env.le_cons (t := 77) rfl (Env.le_nil _)))))))) ?_
                refine cj_cond rfl (fun hc77 => ?_) (fun hc77 => ?_)
                · try simp only [decide_eq_true_eq, decide_eq_false_iff_not, Bool.not_eq_true', Bool.not_eq_false', Bool.true_eq_false, Bool.false_eq_true] at hc77
                  refine cj_region ?_
                  obtain ⟨g, rest', rfl⟩ : ∃ g rest', rest = g :: rest' := by cases rest with | nil => simp at hc77 | cons g r => exact ⟨g, r, rfl⟩
                  simp only [List.map_cons, List.cons_append]
                  have hkg := hT.kids g (by simp)
                  have hlg := hT.tail.len1
                  have hlg2 : rest'.length ≤ 1000 := by have := hlg.2; omega
                  refine rj_val (wn0 rfl) rfl rfl (y_move rfl) ?_
                  refine rj_callv (wn0 rfl) rfl rfl Try.call29 rfl (shut_t b4 v (vt, ks, css) g rest' hkf hkg hlg2 (by dsimp only; omega) (by omega)) (by (repeat (first | exact Split.nil _ | (apply Split.cons; focus (repeat (first | exact Find.head _ | apply Find.tail)))))) (fun _ _ _ _ h => h.elim) ?_
                  rintro r R2 L' hR2 ⟨v', g', eg, kg, rfl⟩
                  try simp only [List.cons_append, List.nil_append]
                  refine rj_nil ?_
                  refine ej_join hJ25 ((v', g', rest', R2)) (⟨Hp.le_trans hR1 hR2, (hT.shut hR2 eg kg).mono (Hp.le_refl _) (by omega)⟩) (Env.le_cons rfl (Env.le_cons rfl (Env.le_cons rfl (Env.le_cons rfl (Env.le_cons rfl (Env.le_cons rfl (Env.le_nil _))))))) rfl (by (repeat (first | exact Sub.refl _ | (apply Sub.pick; focus (repeat (first | exact Find.head _ | apply Find.tail))) | apply Sub.drop | exact Sub.tailApp _ _)))
                · try simp only [decide_eq_true_eq, decide_eq_false_iff_not, Bool.not_eq_true', Bool.not_eq_false', Bool.true_eq_false, Bool.false_eq_true] at hc77
                  refine cj_skip ?_
                  refine ej_join hJ25 ((v, (vt, ks, css), rest, R1)) (⟨hR1, hT.mono (Hp.le_refl _) (by omega)⟩) (Env.le_cons rfl (Env.le_cons rfl (Env.le_cons rfl (Env.le_cons rfl (Env.le_cons rfl (Env.le_cons rfl (Env.le_nil _))))))) rfl (by (repeat (first | exact Sub.refl _ | (apply Sub.pick; focus (repeat (first | exact Find.head _ | apply Find.tail))) | apply Sub.drop | exact Sub.tailApp _ _)))
              · try simp only [decide_eq_true_eq, decide_eq_false_iff_not, Bool.not_eq_true', Bool.not_eq_false', Bool.true_eq_false, Bool.false_eq_true] at hc73
                refine cj_seq (fun K31 hK31 => ?_)
                refine cj_region ?_
                refine rj_val (wn0 rfl) rfl rfl (y_eql rfl rfl) ?_
                refine rj_val (wn0 rfl) rfl rfl (y_assign rfl) ?_
                refine rj_nil ?_
                refine hK31 _ _ _ ?_
                refine cj_env (Env.le_cons (t := 2) rfl (Env.le_cons (t := 4) rfl (Env.le_cons (t := 5) rfl (Env.le_cons (t := 7) rfl (Env.le_cons (t := 8) rfl (Env.le_cons (t := 17) rfl (Env.le_cons (t := 18) rfl (Env.le_cons (t := 19) rfl (Env.le_cons (t := 80) rfl (Env.le_nil _)))))))))) ?_
                refine cj_cond rfl (fun hc80 => ?_) (fun hc80 => ?_)
                · try simp only [decide_eq_true_eq, decide_eq_false_iff_not, Bool.not_eq_true', Bool.not_eq_false', Bool.true_eq_false, Bool.false_eq_true] at hc80
                  refine cj_seq (fun K33 hK33 => ?_)
                  refine cj_region ?_
                  refine rj_val (wn0 rfl) rfl rfl (y_move rfl) ?_
                  refine rj_val (wn0 rfl) rfl rfl ((y_nilCheck_slc (sz := 4) (n := rest.length + 1) rfl (by ((repeat (first | exact Find.head _ | apply Find.tail)); done)) (by omega))) ?_
                  refine rj_val (wn0 rfl) rfl rfl ((y_fieldAddr_slc (k := 3) Try.underlying26 rfl (m := 1) (by decide) Try.sizeOf24 rfl (by ((repeat (first | exact Find.head _ | apply Find.tail)); done)) (by omega))) ?_
                  refine rj_val (wn0 rfl) rfl rfl ((y_load_slc ⟨Try.isAgg24, Try.sizeOf24⟩ rfl (by ((repeat (first | exact Find.head _ | apply Find.tail)); done)) (hdrs_kids (vt, ks, css) rest))) ?_
                  refine rj_val (wn0 rfl) rfl rfl ((y_len_slc Try.underlying24 rfl (by ((repeat (first | exact Find.head _ | apply Find.tail)); done)))) ?_
                  refine rj_val (wn0 rfl) rfl rfl (y_assign rfl) ?_
                  refine rj_nil ?_
                  refine hK33 _ _ _ ?_
                  refine cj_env (Env.le_cons (t := 2) rfl (Env.le_cons (t := 4) rfl (Env.le_cons (t := 5) rfl (Env.le_cons (t := 7) rfl (Env.le_cons (t := 8) rfl (Env.le_cons (t := 9) rfl (Env.le_cons (t := 17) rfl (Env.le_cons (t := 18) rfl (Env.le_cons (t := 19) rfl (Env.le_nil _)))))))))) ?_
                  refine cj_seq (fun K34 hK34 => ?_)
                  refine cj_region ?_
                  refine rj_val (wn0 rfl) rfl rfl (y_move rfl) ?_
                  refine rj_val (wn0 rfl) rfl rfl (y_gtr rfl rfl) ?_
                  refine rj_nil ?_
                  refine hK34 _ _ _ ?_
                  refine cj_cond rfl (fun hc88 => ?_) (fun hc88 => ?_)
                  · try simp only [decide_eq_true_eq, decide_eq_false_iff_not, Bool.not_eq_true', Bool.not_eq_false', Bool.true_eq_false, Bool.false_eq_true] at hc88
                    obtain ⟨ks0, kk, nk, sk, kl, css0, qk, capk, rfl, rfl, hc0, hkl, hfl⟩ := hkf.split (by (try simp at hc88); (try simp); omega)
                    refine cj_mixg (L := [blk b7 [.int .i64 what, .int .u64 ((n : Nat) : Int), .string (str s)] 63, slc 26 4 v (rest.length + 1) (hdrs ((vt, ks0 ++ [Nd.mk kk nk sk kl], css0 ++ [[.int .i64 kk, .int .u64 ((nk : Nat) : Int), .string (str sk), .slice qk kl.length capk]]) :: rest))]) [0, 1, 2, 3, 4, 5, 6, 7, 8, 9, 10, 11, 12, 13, 14, 15] [16, 17, 18] [19, 20, 21] _ (by (repeat (first | exact Sub.refl _ | (apply Sub.pick; focus (repeat (first | exact Find.head _ | apply Find.tail))) | apply Sub.drop | exact Sub.tailApp _ _))) (by kernel_rfl) (by kernel_rfl) (by kernel_rfl) rfl ?_
                    refine fj_val rfl rfl rfl (wn0 rfl) (fun R1 hR1 G => (y_move rfl)) ?_
                    refine fj_val rfl rfl rfl (wn0 rfl) (fun R1 hR1 G => (y_nilCheck_slc (sz := 4) (n := rest.length + 1) rfl (by ((repeat (first | exact Find.head _ | apply Find.tail)); done)) (by omega))) ?_
                    refine fj_val rfl rfl rfl (wn0 rfl) (fun R1 hR1 G => (y_fieldAddr_slc (k := 3) Try.underlying26 rfl (m := 1) (by decide) Try.sizeOf24 rfl (by ((repeat (first | exact Find.head _ | apply Find.tail)); done)) (by omega))) ?_
                    refine fj_val rfl rfl rfl (wn0 rfl) (fun R1 hR1 G => (y_load_slc ⟨Try.isAgg24, Try.sizeOf24⟩ rfl (by ((repeat (first | exact Find.head _ | apply Find.tail)); done)) (hdrs_kids _ rest))) ?_
                    refine fj_val rfl rfl rfl (wn0 rfl) (fun R1 hR1 G => (y_move rfl)) ?_
                    first | refine fj_val rfl rfl rfl (wn0 rfl) (fun R1 hR1 G => (y_sub64 rfl rfl (by (first | omega | (dsimp only; omega) | (simp; done) | (simp; omega))))) ?_ | refine fj_val rfl rfl rfl (wn0 rfl) (fun R1 hR1 G => (y_sub rfl rfl)) ?_
                    refine fj_val rfl rfl rfl (wn0 rfl) (fun R1 hR1 G => (y_move rfl)) ?_
                    refine fj_val rfl rfl rfl (wn0 rfl) (fun R1 hR1 G => (y_nilCheck_slc (sz := 4) (n := rest.length + 1) rfl (by ((repeat (first | exact Find.head _ | apply Find.tail)); done)) (by omega))) ?_
                    refine fj_val rfl rfl rfl (wn0 rfl) (fun R1 hR1 G => (y_fieldAddr_slc (k := 3) Try.underlying26 rfl (m := 1) (by decide) Try.sizeOf24 rfl (by ((repeat (first | exact Find.head _ | apply Find.tail)); done)) (by omega))) ?_
                    refine fj_val rfl rfl rfl (wn0 rfl) (fun R1 hR1 G => (y_load_slc ⟨Try.isAgg24, Try.sizeOf24⟩ rfl (by ((repeat (first | exact Find.head _ | apply Find.tail)); done)) (hdrs_kids _ rest))) ?_
                    refine fj_val rfl rfl rfl (wn0 rfl) (fun R1 hR1 G => (y_move rfl)) ?_
                    first | refine fj_val rfl rfl rfl (wn0 rfl) (fun R1 hR1 G => (y_sub64 rfl rfl (by (first | omega | (dsimp only; omega) | (simp; done) | (simp; omega))))) ?_ | refine fj_val rfl rfl rfl (wn0 rfl) (fun R1 hR1 G => (y_sub rfl rfl)) ?_
                    refine fj_val rfl rfl rfl (wn0 rfl) (fun R1 hR1 G => (y_fieldAddr (k := 1) Try.underlying63 rfl (n := 1) (by decide) Try.sizeOf23 rfl)) ?_
                    first | refine fj_val rfl rfl rfl (wn0 rfl) (fun R1 hR1 G => (y_load ⟨Try.isAgg23, Try.sizeOf23⟩ rfl (by ((repeat (first | exact Find.head _ | apply Find.tail)); done)) rfl)) ?_ | refine fj_val rfl rfl rfl (wn0 rfl) (fun R1 hR1 G => (y_load_slc ⟨Try.isAgg23, Try.sizeOf23⟩ rfl (by ((repeat (first | exact Find.head _ | apply Find.tail)); done)) rfl)) ?_
                    refine fj_val rfl rfl rfl (wn0 rfl) (fun R1 hR1 G => (y_fieldAddr (k := 2) Try.underlying63 rfl (n := 1) (by decide) Try.sizeOf9 rfl)) ?_
                    first | refine fj_val rfl rfl rfl (wn0 rfl) (fun R1 hR1 G => (y_load ⟨Try.isAgg9, Try.sizeOf9⟩ rfl (by ((repeat (first | exact Find.head _ | apply Find.tail)); done)) rfl)) ?_ | refine fj_val rfl rfl rfl (wn0 rfl) (fun R1 hR1 G => (y_load_slc ⟨Try.isAgg9, Try.sizeOf9⟩ rfl (by ((repeat (first | exact Find.head _ | apply Find.tail)); done)) rfl)) ?_
                    refine fj_nil ?_
                    refine xj_rj rfl ?_
                    try simp only [List.cons_append, List.nil_append, List.append_nil]
                    refine rj_val (wn0 rfl) rfl rfl (((y_index_slc (sz := 4) (n := (ks0 ++ [Nd.mk kk nk sk kl]).length) Try.underlying24 Try.sizeOf26 rfl rfl (by ((repeat (first | exact Find.head _ | apply Find.tail)); done)) (by simp <;> omega)).to (show _ = cellV vt (ks0.length * 4) by congr 1; simp))) ?_
                    refine rj_xk (by (first | exact Hp.le_refl _ | assumption | exact Hp.le_trans ‹_› ‹_›)) (by (repeat (first | exact Sub.refl _ | (apply Sub.pick; focus (repeat (first | exact Find.head _ | apply Find.tail))) | apply Sub.drop | exact Sub.tailApp _ _))) ?_
                    refine xj_rj rfl ?_
                    try simp only [List.cons_append, List.nil_append, List.append_nil]
                    refine rj_val (wn0 rfl) rfl rfl ((y_fieldAddr_slc (k := 1) Try.underlying26 rfl (m := 1) (by decide) Try.sizeOf23 rfl (by ((repeat (first | exact Find.head _ | apply Find.tail)); done)) (by simp))) ?_
                    refine rj_xk (by (first | exact Hp.le_refl _ | assumption | exact Hp.le_trans ‹_› ‹_›)) (by (repeat (first | exact Sub.refl _ | (apply Sub.pick; focus (repeat (first | exact Find.head _ | apply Find.tail))) | apply Sub.drop | exact Sub.tailApp _ _))) ?_
                    refine xj_rj rfl ?_
                    try simp only [List.cons_append, List.nil_append, List.append_nil]
                    refine rj_store_slc (sz := 4) (n := (ks0 ++ [Nd.mk kk nk sk kl]).length) (j := ks0.length * 4 + 1) ⟨Try.isAgg23, Try.sizeOf23⟩ (wn0 rfl) rfl rfl (by (first | rfl | assumption | (apply cutV_one; assumption))) (by ((repeat (first | exact Find.head _ | apply Find.tail)); done)) (by simp at hfl ⊢; omega) (set_last hfl _ _ _ _ _).1 (by simp) ?_
                    refine rj_xk (by (first | exact Hp.le_refl _ | assumption | exact Hp.le_trans ‹_› ‹_›)) (by (repeat (first | exact Sub.refl _ | (apply Sub.pick; focus (repeat (first | exact Find.head _ | apply Find.tail))) | apply Sub.drop | exact Sub.tailApp _ _))) ?_
                    refine xj_nil ?_
                    try simp only [List.cons_append, List.nil_append, List.append_nil]
                    refine rj_val (wn0 rfl) rfl rfl (((y_index_slc (sz := 4) (n := (ks0 ++ [Nd.mk kk nk sk kl]).length) Try.underlying24 Try.sizeOf26 rfl rfl (by ((repeat (first | exact Find.head _ | apply Find.tail)); done)) (by simp <;> omega)).to (show _ = cellV vt (ks0.length * 4) by congr 1; simp))) ?_
                    refine rj_val (wn0 rfl) rfl rfl ((y_fieldAddr_slc (k := 2) Try.underlying26 rfl (m := 1) (by decide) Try.sizeOf9 rfl (by ((repeat (first | exact Find.head _ | apply Find.tail)); done)) (by simp))) ?_
                    refine rj_store_slc (sz := 4) (n := (ks0 ++ [Nd.mk kk nk sk kl]).length) (j := ks0.length * 4 + 2) ⟨Try.isAgg9, Try.sizeOf9⟩ (wn0 rfl) rfl rfl (by (first | rfl | assumption | (apply cutV_one; assumption))) (by ((repeat (first | exact Find.head _ | apply Find.tail)); done)) (by simp at hfl ⊢; omega) (set_last hfl _ _ _ _ _).2 (by simp) ?_
                    rw [show (ks0 ++ [Nd.mk kk nk sk kl]).length = (ks0 ++ [Nd.mk kk n s kl]).length by simp]
                    refine rj_nil ?_
                    refine ej_join hJ25 ((v, (vt, ks0 ++ [Nd.mk kk n s kl], css0 ++ [[.int .i64 kk, .int .u64 ((n : Nat) : Int), .string (str s), .slice qk kl.length capk]]), rest, R1)) (⟨hR1, hT.last hn2 hs300 (hkl.node hsb) hc0⟩) (Env.le_cons rfl (Env.le_cons rfl (Env.le_cons rfl (Env.le_cons rfl (Env.le_cons rfl (Env.le_cons rfl (Env.le_nil _))))))) rfl (by (repeat (first | exact Sub.refl _ | (apply Sub.pick; focus (repeat (first | exact Find.head _ | apply Find.tail))) | apply Sub.drop | exact Sub.tailApp _ _)))
                  · try simp only [decide_eq_true_eq, decide_eq_false_iff_not, Bool.not_eq_true', Bool.not_eq_false', Bool.true_eq_false, Bool.false_eq_true] at hc88
                    refine cj_skip ?_
                    refine ej_join hJ25 ((v, (vt, ks, css), rest, R1)) (⟨hR1, hT.mono (Hp.le_refl _) (by omega)⟩) (Env.le_cons rfl (Env.le_cons rfl (Env.le_cons rfl (Env.le_cons rfl (Env.le_cons rfl (Env.le_cons rfl (Env.le_nil _))))))) rfl (by (repeat (first | exact Sub.refl _ | (apply Sub.pick; focus (repeat (first | exact Find.head _ | apply Find.tail))) | apply Sub.drop | exact Sub.tailApp _ _)))
                · try simp only [decide_eq_true_eq, decide_eq_false_iff_not, Bool.not_eq_true', Bool.not_eq_false', Bool.true_eq_false, Bool.false_eq_true] at hc80
                  refine cj_skip ?_
                  refine ej_join hJ25 ((v, (vt, ks, css), rest, R1)) (⟨hR1, hT.mono (Hp.le_refl _) (by omega)⟩) (Env.le_cons rfl (Env.le_cons rfl (Env.le_cons rfl (Env.le_cons rfl (Env.le_cons rfl (Env.le_cons rfl (Env.le_nil _))))))) rfl (by (repeat (first | exact Sub.refl _ | (apply Sub.pick; focus (repeat (first | exact Find.head _ | apply Find.tail))) | apply Sub.drop | exact Sub.tailApp _ _)))
    · try simp only [decide_eq_true_eq, decide_eq_false_iff_not, Bool.not_eq_true', Bool.not_eq_false', Bool.true_eq_false, Bool.false_eq_true] at hc20
      refine cj_exit ?_
      refine hK8 _ _ _ ?_
      refine cj_env (Env.le_cons (t := 2) rfl (Env.le_cons (t := 4) rfl (Env.le_cons (t := 5) rfl (Env.le_nil _)))) ?_
      refine cj_seq (fun K36 hK36 => ?_)
      refine cj_block ?_
      refine cj_env (E' := (fun (x : Value × FrT × List FrT × Hp) => [(2, .pointer (some ⟨b2, 0, none⟩)), (4, .pointer (some ⟨b4, 0, none⟩)), (5, .func (.func 29) ⟨[]⟩ ⟨[.pointer (some ⟨b4, 0, none⟩)]⟩)]) (v, (vt, ks, css), rest, R1)) (Env.le_cons rfl (Env.le_cons rfl (Env.le_cons rfl (Env.le_nil _)))) ?_
      refine cj_sub (M := (fun (x : Value × FrT × List FrT × Hp) => blk b2 [.int .i64 0, .int .u64 0, .string (str []), .slice none 0 0] 26 :: blk b4 [x.1] 24 :: slc 26 4 x.1 (x.2.2.1.length + 1) (hdrs (x.2.1 :: x.2.2.1)) :: frA x.2.1 :: (x.2.2.1.map frA ++ F)) (v, (vt, ks, css), rest, R1)) (by (repeat (first | exact Sub.refl _ | (apply Sub.pick; focus (repeat (first | exact Find.head _ | apply Find.tail))) | apply Sub.drop | exact Sub.tailApp _ _))) ?_
      refine cj_loop (fun (x : Value × FrT × List FrT × Hp) => [(2, .pointer (some ⟨b2, 0, none⟩)), (4, .pointer (some ⟨b4, 0, none⟩)), (5, .func (.func 29) ⟨[]⟩ ⟨[.pointer (some ⟨b4, 0, none⟩)]⟩)]) (fun (x : Value × FrT × List FrT × Hp) => x.2.2.2) (fun (x : Value × FrT × List FrT × Hp) => blk b2 [.int .i64 0, .int .u64 0, .string (str []), .slice none 0 0] 26 :: blk b4 [x.1] 24 :: slc 26 4 x.1 (x.2.2.1.length + 1) (hdrs (x.2.1 :: x.2.2.1)) :: frA x.2.1 :: (x.2.2.1.map frA ++ F)) (fun (x : Value × FrT × List FrT × Hp) => R.le x.2.2.2 ∧ TI x.2.2.2 60 (x.2.1 :: x.2.2.1)) (fun (x : Value × FrT × List FrT × Hp) => x.2.2.1.length) (v, (vt, ks, css), rest, R1) (⟨hR1, hT.mono (Hp.le_refl _) (by (try simp at hc12); omega)⟩) ?_
      rintro ⟨v4, ⟨vt4, ks4, css4⟩, rest4, R4⟩ ⟨hR4, hT4⟩
      try dsimp only
      dsimp only at hR4 hT4
      have hlen4 := hT4.len1
      have hkf4 : Kids R4 ks4 css4 := hT4.kids (vt4, ks4, css4) (by simp)
      dsimp only at hlen4
      refine cj_seq (fun K37 hK37 => ?_)
      refine cj_seq (fun K38 hK38 => ?_)
      refine cj_region ?_
      first | refine rj_val (wn0 rfl) rfl rfl (y_load ⟨Try.isAgg24, Try.sizeOf24⟩ rfl (by ((repeat (first | exact Find.head _ | apply Find.tail)); done)) rfl) ?_ | refine rj_val (wn0 rfl) rfl rfl (y_load_slc ⟨Try.isAgg24, Try.sizeOf24⟩ rfl (by ((repeat (first | exact Find.head _ | apply Find.tail)); done)) rfl) ?_
      first | refine rj_val (wn0 rfl) rfl rfl (y_len_sl Try.underlying24 rfl) ?_ | refine rj_val (wn0 rfl) rfl rfl (y_len_slc Try.underlying24 rfl (by ((repeat (first | exact Find.head _ | apply Find.tail)); done))) ?_
      refine rj_val (wn0 rfl) rfl rfl (y_gtr rfl rfl) ?_
      refine rj_nil ?_
      refine hK38 _ _ _ ?_
      refine cj_cond rfl (fun hc112 => ?_) (fun hc112 => ?_)
      · try simp only [decide_eq_true_eq, decide_eq_false_iff_not, Bool.not_eq_true', Bool.not_eq_false', Bool.true_eq_false, Bool.false_eq_true] at hc112
        refine cj_skip ?_
        refine hK37 _ _ _ ?_
        refine cj_env (Env.le_cons (t := 2) rfl (Env.le_cons (t := 4) rfl (Env.le_cons (t := 5) rfl (Env.le_nil _)))) ?_
        refine cj_block ?_
        refine cj_region ?_
        obtain ⟨g, rest', rfl⟩ : ∃ g rest', rest4 = g :: rest' := by cases rest4 with | nil => simp at hc112 | cons g r => exact ⟨g, r, rfl⟩
        simp only [List.map_cons, List.cons_append]
        have hkg := hT4.kids g (by simp)
        have hlg := hT4.tail.len1
        have hlg2 : rest'.length ≤ 1000 := by have := hlg.2; omega
        refine rj_val (wn0 rfl) rfl rfl (y_move rfl) ?_
        refine rj_callv (wn0 rfl) rfl rfl Try.call29 rfl (shut_t b4 v4 (vt4, ks4, css4) g rest' hkf4 hkg hlg2 (by dsimp only; omega) (by omega)) (by (repeat (first | exact Split.nil _ | (apply Split.cons; focus (repeat (first | exact Find.head _ | apply Find.tail)))))) (fun _ _ _ _ h => h.elim) ?_
        rintro r R2 L' hR2 ⟨v', g', eg, kg, rfl⟩
        try simp only [List.cons_append, List.nil_append]
        refine rj_nil ?_
        refine ej_on (q' := roundK _ _ _ _ _ _ _) rfl ?_
        refine ej_round ((v', g', rest', R2)) (⟨Hp.le_trans hR4 hR2, hT4.shut hR2 eg kg⟩) (by simp) (Env.le_cons rfl (Env.le_cons rfl (Env.le_cons rfl (Env.le_nil _)))) rfl (by (repeat (first | exact Sub.refl _ | (apply Sub.pick; focus (repeat (first | exact Find.head _ | apply Find.tail))) | apply Sub.drop | exact Sub.tailApp _ _)))
      · try simp only [decide_eq_true_eq, decide_eq_false_iff_not, Bool.not_eq_true', Bool.not_eq_false', Bool.true_eq_false, Bool.false_eq_true] at hc112
        refine cj_exit ?_
        refine hK36 _ _ _ ?_
        refine cj_env (Env.le_cons (t := 2) rfl (Env.le_cons (t := 4) rfl (Env.le_nil _))) ?_
        refine cj_seq (fun K40 hK40 => ?_)
        refine cj_region ?_
        obtain rfl : rest4 = [] := by cases rest4 with | nil => rfl | cons g r => simp at hc112; omega
        refine rj_pure (A := frA (vt4, ks4, css4)) (by ((repeat (first | exact Find.head _ | apply Find.tail)); done)) slc_one (fun hvto => ?_)
        dsimp only at hvto
        refine rj_freeze (e := 26) (sz := 4) (n := ks4.length) (v := vt4) (xs := css4.flatten) (by ((repeat (first | exact Find.head _ | apply Find.tail)); done)) (fun R5 hR5 hfr hxl => ?_)
        have hkb : ks4.length ≤ big := by unfold big; omega
        have hk60 : ks4.length ≤ 60 := by omega
        obtain ⟨qr, capr, rfl, hrl⟩ := (hkf4.mono hR5).repL hfr hkb
        first | refine rj_val (wn0 rfl) rfl rfl (y_load ⟨Try.isAgg24, Try.sizeOf24⟩ rfl (by ((repeat (first | exact Find.head _ | apply Find.tail)); done)) rfl) ?_ | refine rj_val (wn0 rfl) rfl rfl (y_load_slc ⟨Try.isAgg24, Try.sizeOf24⟩ rfl (by ((repeat (first | exact Find.head _ | apply Find.tail)); done)) rfl) ?_
        refine rj_val (wn0 rfl) rfl rfl ((y_index_slc (sz := 4) (n := 1) Try.underlying24 Try.sizeOf26 rfl rfl (by ((repeat (first | exact Find.head _ | apply Find.tail)); done)) (by omega))) ?_
        refine rj_val (wn0 rfl) rfl rfl ((y_loads_slc (sz := 4) (n := 1) ⟨Try.isAgg26, Try.sizeOf26⟩ rfl (by ((repeat (first | exact Find.head _ | apply Find.tail)); done)) (hdrs_top (.slice qr ks4.length capr, ks4, css4) []) rfl (by omega))) ?_
        refine rj_stores ⟨Try.isAgg26, Try.sizeOf26⟩ rfl (wn0 rfl) rfl rfl (by (first | (simp [Value.oneCell']; done) | (intro u hu; simp only [List.mem_cons, List.not_mem_nil, or_false] at hu; rcases hu with rfl | rfl | rfl | rfl <;> first | rfl | assumption))) (by ((repeat (first | exact Find.head _ | apply Find.tail)); done)) (by (simp)) rfl ?_
        refine rj_val (wn0 rfl) rfl rfl (y_assign rfl) ?_
        refine rj_nil ?_
        refine hK40 _ _ _ ?_
        refine cj_env (Env.le_cons (t := 2) rfl (Env.le_cons (t := 3) rfl (Env.le_nil _))) ?_
        refine cj_ret ?_
        refine hret _ _ _ ?_
        apply ej_ret Try.results16 (.cons (rv_cells ⟨Try.isAgg26, Try.sizeOf26⟩ rfl (by ((repeat (first | exact Find.head _ | apply Find.tail)); done)) rfl rfl) (.cons (rv_tmp rfl) .nil)) _ [] (by first | exact Hp.le_refl _ | assumption | exact Hp.le_trans hR4 hR5) rfl
        case hp => exact ⟨rfl, .mk 2 0 [] ks4, _, true, rfl, hrl.node (by simp [big]), .mk (by omega) (fun y hy => hT4.ok ks4 (by simp [stk]) y hy), by have := hT4.cst; simp only [stk, List.map_cons, List.map_nil, costS, cost, List.length_nil] at this ⊢; omega, _, _, _, _, rfl, hk60, fun _ => ⟨rfl, rfl, rfl⟩⟩
        case hS => (repeat (first | exact Sub.refl _ | (apply Sub.pick; focus (repeat (first | exact Find.head _ | apply Find.tail))) | apply Sub.drop | exact Sub.tailApp _ _))
end V
end Go.Proofs.Ytcficaboohpmdaa
