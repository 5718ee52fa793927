/- A row of our own, laid open: append in place, of its own elements too; clear; three-index slices. -/
import Derived.Test.YtcgjlhhfldkdaaaV11
import Derived.Test.YtcgjlhhfldkdaaaV15
set_option linter.unusedSimpArgs false
set_option linter.unusedVariables false
namespace Go.Proofs.Ytcgjlhhfldkdaaa
open Go.RowKit
namespace V
theorem cj_condt {c : Cx} {Q : Exit → Act → World → Prop} {E : Env} {R : Hp} {L : List Asn} {t : Nat} {s u : Code} {b : Bool} (e : lk E t = some (.bool b)) (hs : b = true → CJ c s Q ((t, .bool true) :: E) R L) (ht : b = false → CJ c u Q ((t, .bool false) :: E) R L) : CJ c (.cond (.tmp t) s u) Q E R L := by
  intro a w hf hw
  cases b with
  | true => exact wp_cond_true (hf.get _ _ e) (hs rfl a w (hf.le (Env.le_cons e fun _ _ h => h)) hw)
  | false => exact wp_cond_false (hf.get _ _ e) (ht rfl a w (hf.le (Env.le_cons e fun _ _ h => h)) hw)
def rowA (g : Nat) (l : List Value) (e : TypeId) (fz : Nat × Nat) : Asn := fun h => h g = some (.cells ⟨l⟩ e fz)
section
variable {c : Cx} {ops : Array Oper} {Q : Exit → Act → World → Prop} {E : Env} {R : Hp} {L M : List Asn} {rest : List Oper} {d : Option Tmp} {ty : TypeId} {p : String} {af : Array Edge} {g : Option (Nat × Bool)}
theorem cj_open {x : Code} {e : TypeId} {sz n : Nat} {v : Value} {xs : List Value} (f : Find (slc e sz v n xs) L M) (hn : 0 < n)
    (h : ∀ (g cap : Nat) (fz : Nat × Nat) (pre post : List Value), v = .slice (some ⟨g, List.length pre, none⟩) n cap → xs.length = n * sz → (∀ o, o < (pre ++ (xs ++ post)).length → ¬ (fz.1 ≤ o ∧ o < fz.2)) →
      n ≤ cap → cap ≤ maxLen → cap * sz ≤ (xs ++ post).length → CJ c x Q E R (rowA g (pre ++ (xs ++ post)) e fz :: M)) : CJ c x Q E R L := fun a w ha hs => by
  obtain ⟨hl, hc⟩ := (hs.find f).slc_cases
  rcases hc with ⟨_, h0, _⟩ | ⟨g, cap, fz, pre, post, hv, hf, hnc, hcm, hcs, hsg⟩
  · omega
  · exact h g cap fz pre post hv hl hf hnc hcm hcs a w ha hsg
theorem slc_close {e : TypeId} {sz n cap g : Nat} {fz : Nat × Nat} {pre xs post : List Value} (hl : xs.length = n * sz) (hf : ∀ o, o < (pre ++ (xs ++ post)).length → ¬ (fz.1 ≤ o ∧ o < fz.2)) (hn : n ≤ cap) (hm : cap ≤ maxLen) (hc : cap * sz ≤ (xs ++ post).length)
    (h : Hp) (hh : rowA g (pre ++ (xs ++ post)) e fz h) : slc e sz (.slice (some ⟨g, pre.length, none⟩) n cap) n xs h := ⟨hl, .inr ⟨g, cap, fz, pre, post, rfl, hh, hf, hn, hm, hc⟩⟩
theorem Sat.row_cell {σ : World} {w : World} {b : Nat} {l : List Value} {e : TypeId} {fz : Nat × Nat} (s : Sat σ R (rowA b l e fz :: L) w) (o : Nat) : w.cell? ⟨b, o, none⟩ = l[o]? := by
  have := heap_of_one s
  simp [World.cell?, this]
theorem Sat.row_set {σ : World} {w : World} {b : Nat} {l news : List Value} {e : TypeId} {fz : Nat × Nat} {o : Nat} (s : Sat σ R (rowA b l e fz :: L) w) (hl : o + news.length ≤ l.length) :
    Sat σ R (rowA b (l.take o ++ news ++ l.drop (o + news.length)) e fz :: L) (w.setCells b o news) := by
  have hg := heap_of_one s
  have e0 : l = l.take o ++ l.drop o := (List.take_append_drop o l).symm
  rw [e0] at hg
  have hlen : (l.take o).length = o := by simp; omega
  have h3 := setCells_heap news (l.take o) (l.drop o) w hg (by simp; omega)
  rw [hlen] at h3
  obtain ⟨o1, o2, o3⟩ := setCells_same (g := b) news o w
  refine Sat.put s o1 o2 o3 (fun k hk _ => setCells_other news _ w k hk) ?_
  rw [h3]
  simp
theorem run_setCells {P : Program} {σ : World} {w : World} {b : Nat} {l news : List Value} {e : TypeId} {fz : Nat × Nat} {o : Nat} (s : Sat σ R (rowA b l e fz :: L) w) (hf : ∀ o, o < l.length → ¬ (fz.1 ≤ o ∧ o < fz.2)) (hl : o + news.length ≤ l.length) :
    (∀ j, j < news.length → (w.cell? ⟨b, o + j, none⟩).isSome = true) ∧ (∀ j, j < news.length → w.frozen? ⟨b, o + j, none⟩ = false) := by
  have hg := heap_of_one s
  refine ⟨fun j hj => ?_, fun j hj => ?_⟩
  · rw [s.row_cell]; simp; omega
  · have := hf (o + j) (by omega)
    obtain ⟨lo, hi⟩ := fz
    simp only at this
    simp [World.frozen?, hg]
    omega
theorem src_row {tx e' e : TypeId} {sz m k b o : Nat} {fz : Nat × Nat} {l news : List Value} (hk : c.P.underlying tx = some (.slice e')) (f : Find (rowA b l e fz) L M) (hl : news.length = m * sz) (hc : ∀ (j : Nat) u, news[j]? = some u → l[o + j]? = some u) (h1 : ∀ u ∈ news, u.oneCell' = true) :
    SrcJ c R L tx sz (.slice (some ⟨b, o, none⟩) m k) m news := fun w hs =>
  Src.ofSlice w hk _ _ _ _ hl (fun j u hj => by rw [add_mk, (hs.find f).row_cell]; exact hc j u hj) h1
theorem rj_append_room {dd : Nat} {x y : Operand} {t tx e e0 : TypeId} {sz by_ n m cap b o : Nat} {fz : Nat × Nat} {u : Value} {l news ys : List Value} (hT : AppT c.P t e sz by_)
    (hw : Wn c ops E ⟨some dd, .call { callee := .builtin .append, args := #[x, y], argTypes := #[t, tx] }, ty, p, af, g⟩ true) (hd : Nat.blt dd c.n = true)
    (e1 : ev E x = some (.slice (some ⟨b, o, none⟩) n cap)) (e2 : ev E y = some u) (f : Find (rowA b l e0 fz) L M) (hf : ∀ o, o < l.length → ¬ (fz.1 ≤ o ∧ o < fz.2)) (hsrc : SrcJ c R L tx sz u m news) (hroom : n + m ≤ cap) (hl : o + n * sz + m * sz ≤ l.length)
    (hys : l.take (o + n * sz) ++ news ++ l.drop (o + n * sz + m * sz) = ys)
    (h : RJ c ops Q rest ((dd, .slice (some ⟨b, o, none⟩) (n + m) cap) :: E) R (rowA b ys e0 fz :: M)) : RJ c ops Q (⟨some dd, .call { callee := .builtin .append, args := #[x, y], argTypes := #[t, tx] }, ty, p, af, g⟩ :: rest) E R L := by
  refine rj_run hw rfl hd (fun a w hf' hs => ?_) h
  obtain ⟨ht, i, z, hi, hz, rfl, rfl, hzs⟩ := hT
  have hsr := hsrc w hs
  have hnl := hsr.newsLen
  have hs' := hs.find f
  obtain ⟨c1, c2⟩ := run_setCells (P := c.P) (o := o + n * i.size) (news := news) hs' hf (by omega)
  have r1 := run_append_room_src w t tx ty e i ht hi b o n cap u m news hsr hroom (by simpa using c1) (by simpa using c2)
  refine ⟨w.setCells b (o + n * i.size) news, ?_, ?_⟩
  · simp [execOp, resolve, invoke, builtin, hf'.ev e1, hf'.ev e2, r1]
  · have := hs'.row_set (news := news) (o := o + n * i.size) (by omega)
    rw [hnl] at this
    rw [← hys]; exact this
theorem rj_clear {x : Operand} {t e e0 : TypeId} {n k b o : Nat} {fz : Nat × Nat} {z : Value} {l news ys : List Value} (hT : c.P.underlying t = some (.slice e)) (hz : ∀ w, (zeroValue e).run c.P w = .ok z w) (hzc : (Builtin.zeroCells z.cells n).toList = news) (h1 : ∀ u ∈ news, u.oneCell' = true) (hn : n ≠ 0)
    (hw : Wn c ops E ⟨none, .call { callee := .builtin .clear, args := #[x], argTypes := #[t] }, ty, p, af, g⟩ true)
    (e1 : ev E x = some (.slice (some ⟨b, o, none⟩) n k)) (f : Find (rowA b l e0 fz) L M) (hf : ∀ o, o < l.length → ¬ (fz.1 ≤ o ∧ o < fz.2)) (hl : o + news.length ≤ l.length)
    (hys : l.take o ++ news ++ l.drop (o + news.length) = ys) (h : RJ c ops Q rest E R (rowA b ys e0 fz :: M)) : RJ c ops Q (⟨none, .call { callee := .builtin .clear, args := #[x], argTypes := #[t] }, ty, p, af, g⟩ :: rest) E R L := by
  intro a w hf' hs
  unfold wpList
  rw [if_pos (hw a hf')]
  refine .inl ?_
  have hs' := hs.find f
  obtain ⟨c1, c2⟩ := run_setCells (P := c.P) (o := o) (news := news) hs' hf hl
  have hst := run_storeCells_cells (P := c.P) b o news 0 w (by simpa using c1) (by simpa using c2) h1
  simp only [Nat.add_zero] at hst
  obtain ⟨m, rfl⟩ : ∃ m, n = m + 1 := ⟨n - 1, by omega⟩
  have r1 : (Builtin.clear_ #[t] ty #[.slice (some ⟨b, o, none⟩) (m + 1) k]).run c.P w = .ok (.tuple #[]) (w.setCells b o news) := by
    simp [Builtin.clear_, run_underlying hT, hz, hzc, hst]
  have r : (execOp a.eval ⟨none, .call { callee := .builtin .clear, args := #[x], argTypes := #[t] }, ty, p, af, g⟩).run c.P w = .ok (.value (.tuple #[])) (w.setCells b o news) := by
    simp [execOp, resolve, invoke, builtin, hf'.ev e1, r1]
  unfold Oper.wp
  rw [r]
  simp only [Oper.upon]
  exact h _ _ hf' (hys ▸ hs'.row_set hl)
theorem y_slice_max {x lo hi mx : Operand} {t e : TypeId} {q : Option Addr} {n k sz l h m : Nat} {i1 i2 i3 : IntKind} (hT : c.P.underlying t = some (.slice e)) (hS : ∀ w, (sizeOf e).run c.P w = .ok sz w)
    (e1 : ev E x = some (.slice q n k)) (hl : ev E lo = some (.int i1 (l : Int))) (hh : ev E hi = some (.int i2 (h : Int))) (hm : ev E mx = some (.int i3 (m : Int))) (hb : l ≤ h ∧ h ≤ m ∧ m ≤ k) :
    Yld c E R L ⟨d, .slice t x (some lo) (some hi) (some mx), ty, p, af, g⟩ (.slice (partAddr q l m sz) (h - l) (m - l)) :=
  fun a w hf _ => by
    have bnd : ∀ (ik : IntKind) (m y : Nat) (code : BoundsCode), m ≤ y → (Instr.sliceBound (.int ik (m : Int)) y code).run c.P w = .ok m w := fun ik m y code hm => by
      have h1 : (0 : Int) ≤ m ∧ (m : Int) ≤ y := ⟨by omega, by omega⟩
      simp [Instr.sliceBound, asIntOf, hm]
    have r : (Instr.sliceBounds true n k (some (a.eval lo)) (some (a.eval hi)) (some (a.eval mx))).run c.P w = .ok (l, h, m) w := by
      unfold Instr.sliceBounds
      simp [hf.ev hl, hf.ev hh, hf.ev hm, bnd _ _ _ _ hb.1, bnd _ _ _ _ hb.2.1, bnd _ _ _ _ hb.2.2]
    have r2 : (Instr.sliceAt t (.slice q n k) (some (a.eval lo)) (some (a.eval hi)) (some (a.eval mx))).run c.P w = .ok (.slice (partAddr q l m sz) (h - l) (m - l)) w := by
      unfold Instr.sliceAt
      simp only [Sem.run_bind, run_underlying hT, Result.andThen_ok]
      unfold Instr.slice
      simp only [Sem.run_bind, run_underlying hT, Result.andThen_ok, r, hS, Sem.run_pure]
      rfl
    simp [execOp, hf.ev e1, r2, Oper.quietUpon]
end
end V
end Go.Proofs.Ytcgjlhhfldkdaaa
