/- Rules for slices of our own: append, length, elements, parts; texts and bytes; max and min. -/
import Derived.Test.YtcgjlhhfldkdaaaV8
set_option linter.unusedSimpArgs false
set_option linter.unusedVariables false
namespace Go.Proofs.Ytcgjlhhfldkdaaa
open Go.RowKit
namespace V
/-- cell j of a slice -/
def cellV (v : Value) (j : Nat) : Value := match v with | .slice (some a) _ _ => .pointer (some (a.add j)) | _ => .pointer none
/-- v[l:h] -/
def cutV (v : Value) (l h sz : Nat) : Value := match v with | .slice q _ k => .slice (partAddr q l k sz) (h - l) (k - l) | _ => v
def bytesV (l : List UInt8) : List Value := l.map fun b => .int .u8 (b.toNat : Int)
theorem bytesV_length (l : List UInt8) : (bytesV l).length = l.length := by simp [bytesV]
theorem bytesV_app (l m : List UInt8) : bytesV l ++ bytesV m = bytesV (l ++ m) := by simp [bytesV]
theorem byteCells_str (l : List UInt8) : byteCells (str l) = bytesV l := by simp [byteCells, bytesV]
theorem bytesV_take (l : List UInt8) (n : Nat) : (bytesV l).take n = bytesV (l.take n) := by simp [bytesV, List.map_take]
theorem bytesV_drop (l : List UInt8) (n : Nat) : (bytesV l).drop n = bytesV (l.drop n) := by simp [bytesV, List.map_drop]
theorem bytesV_one (l : List UInt8) : ∀ u ∈ bytesV l, u.oneCell' = true := fun u h => by
  obtain ⟨_, _, rfl⟩ := List.mem_map.1 h; rfl

theorem slc_len {e : TypeId} {sz n : Nat} {v : Value} {xs : List Value} (h : Hp) (hs : slc e sz v n xs h) : xs.length = n * sz := hs.1
theorem slc_shape {e : TypeId} {sz n : Nat} {v : Value} {xs : List Value} (h : Hp) (hs : slc e sz v n xs h) : ∃ q k, v = .slice q n k ∧ n ≤ k ∧ k ≤ maxLen ∧ (0 < n → ∃ b off, q = some ⟨b, off, none⟩) := by
  rcases hs.2 with ⟨hv, hn⟩ | ⟨g, cap, fz, pre, post, hv, _, _, h1, h2, _⟩
  · subst hn; exact ⟨none, 0, hv, by omega, by simp [maxLen], fun h => by omega⟩
  · exact ⟨_, _, hv, h1, h2, fun _ => ⟨_, _, rfl⟩⟩
theorem slc_one {e : TypeId} {sz n : Nat} {v : Value} {xs : List Value} (h : Hp) (hs : slc e sz v n xs h) : v.oneCell' = true := by
  obtain ⟨q, k, rfl, _⟩ := slc_shape h hs; rfl
theorem cutV_one {v : Value} {l h sz : Nat} (hv : v.oneCell' = true) : (cutV v l h sz).oneCell' = true := by
  unfold cutV; split
  · rfl
  · exact hv
theorem slc_cut {e : TypeId} {sz n : Nat} {v : Value} {xs : List Value} {l k : Nat} (hlk : l ≤ k) (hkn : k ≤ n) (h : Hp) (hs : slc e sz v n xs h) : slc e sz (cutV v l k sz) (k - l) ((xs.drop (l * sz)).take ((k - l) * sz)) h := by
  obtain ⟨hl, hs⟩ := hs
  have hmul : l * sz ≤ n * sz := Nat.mul_le_mul_right _ (by omega)
  have hmul2 : k * sz ≤ n * sz := Nat.mul_le_mul_right _ (by omega)
  have hmul3 : (k - l) * sz = k * sz - l * sz := Nat.sub_mul _ _ _
  have hmul4 : l * sz ≤ k * sz := Nat.mul_le_mul_right _ hlk
  refine ⟨by rw [List.length_take, List.length_drop, hl]; omega, ?_⟩
  rcases hs with ⟨rfl, rfl⟩ | ⟨g, cap, fz, pre, post, rfl, h1, h2, h3, h4, h5⟩
  · obtain rfl : l = 0 := by omega
    obtain rfl : k = 0 := by omega
    exact .inl ⟨rfl, rfl⟩
  · have hx : xs = xs.take (l * sz) ++ ((xs.drop (l * sz)).take ((k - l) * sz) ++ (xs.drop (l * sz)).drop ((k - l) * sz)) := by rw [List.take_append_drop, List.take_append_drop]
    have hlen : (xs.take (l * sz)).length = l * sz := by rw [List.length_take]; omega
    have e1 : pre ++ (xs ++ post) = (pre ++ xs.take (l * sz)) ++ ((xs.drop (l * sz)).take ((k - l) * sz) ++ ((xs.drop (l * sz)).drop ((k - l) * sz) ++ post)) := by
      simp only [List.append_assoc, List.take_append_drop]
      rw [← List.append_assoc (xs.drop (l * sz) |>.take _), List.take_append_drop, ← List.append_assoc (xs.take _), List.take_append_drop]
    rcases Nat.lt_or_ge l cap with hlc | hlc
    · refine .inr ⟨g, cap - l, fz, pre ++ xs.take (l * sz), (xs.drop (l * sz)).drop ((k - l) * sz) ++ post, ?_, by rw [h1, e1], by rw [← e1]; exact h2, by omega, by omega, ?_⟩
      · have : ¬ cap = l := by omega
        simp only [cutV, partAddr, if_neg this, Option.map_some, add_mk, List.length_append, hlen]
      · rw [← List.append_assoc, List.take_append_drop, List.length_append, List.length_drop, hl]
        rw [List.length_append, hl] at h5
        have : (cap - l) * sz = cap * sz - l * sz := Nat.sub_mul _ _ _
        omega
    · obtain rfl : cap = l := by omega
      obtain rfl : k = cap := by omega
      obtain rfl : n = k := by omega
      refine .inr ⟨g, 0, fz, pre, xs ++ post, ?_, ?_, ?_, by omega, by simp [maxLen], by simp⟩
      · simp only [cutV, partAddr, if_true, Nat.sub_self]
      · simpa using h1
      · simpa using h2
theorem slc_pre {e : TypeId} {n k : Nat} {v : Value} {bs : List UInt8} (hk : k ≤ n) (h : Hp) (hs : slc e 1 v n (bytesV bs) h) : slc e 1 (cutV v 0 k 1) (bs.take k).length (bytesV (bs.take k)) h := by
  have hl := hs.1
  rw [bytesV_length, Nat.mul_one] at hl
  have := slc_cut (Nat.zero_le k) hk h hs
  have e1 : (bs.take k).length = k := by rw [List.length_take]; omega
  rw [e1, ← bytesV_take]
  simpa using this
theorem slc_tells {e : TypeId} {sz n : Nat} {v : Value} {xs : List Value} {j : Nat} {u : Value} (hj : nth xs j = some u) {σ : World} {R : Hp} {L : List Asn} {w : World} (s : Sat σ R (slc e sz v n xs :: L) w) :
    ∃ b off, cellV v j = .pointer (some ⟨b, off, none⟩) ∧ w.cell? ⟨b, off, none⟩ = some u := by
  obtain ⟨hl, h⟩ := s.slc_cases
  rw [nth_eq] at hj
  rcases h with ⟨rfl, rfl, rfl⟩ | ⟨g, cap, fz, pre, post, rfl, _, _, _, _, hs⟩
  · simp at hj
  · exact ⟨g, pre.length + j, by simp [cellV, add_mk], row_cell (heap_of_one hs) hj⟩
theorem cellV_addr {e : TypeId} {sz n : Nat} {v : Value} {xs : List Value} (hn : 0 < n) {σ : World} {R : Hp} {L : List Asn} {w : World} (s : Sat σ R (slc e sz v n xs :: L) w) :
    ∃ b off cap, v = .slice (some ⟨b, off, none⟩) n cap ∧ ∀ j, cellV v j = .pointer (some ⟨b, off + j, none⟩) := by
  obtain ⟨hl, h⟩ := s.slc_cases
  rcases h with ⟨rfl, rfl, rfl⟩ | ⟨g, cap, fz, pre, post, rfl, _, _, _, _, hs⟩
  · omega
  · exact ⟨g, pre.length, cap, rfl, fun j => by simp [cellV, add_mk]⟩
theorem Sat.slc_set {σ : World} {R : Hp} {L : List Asn} {w : World} {e : TypeId} {sz n : Nat} {v : Value} {xs : List Value} {vs : List Value} {j b off : Nat} (s : Sat σ R (slc e sz v n xs :: L) w) (hj : j + vs.length ≤ xs.length) (hc : cellV v j = .pointer (some ⟨b, off, none⟩)) :
    Sat σ R (slc e sz v n (xs.take j ++ vs ++ xs.drop (j + vs.length)) :: L) (w.setCells b off vs) ∧ (∀ i, i < vs.length → (w.cell? ⟨b, off + i, none⟩).isSome = true ∧ w.frozen? ⟨b, off + i, none⟩ = false) := by
  obtain ⟨hl, h⟩ := s.slc_cases
  rcases h with ⟨rfl, rfl, rfl⟩ | ⟨g, cap, fz, pre, post, rfl, h2, h3, h4, h5, hs⟩
  · simp [cellV] at hc
  · simp only [cellV, add_mk, Value.pointer.injEq, Option.some.injEq, Addr.mk.injEq] at hc
    obtain ⟨rfl, rfl, -⟩ := hc
    have hg := heap_of_one hs
    have hlen : (pre ++ xs.take j).length = pre.length + j := by rw [List.length_append, List.length_take]; omega
    have e1 : pre ++ (xs ++ post) = (pre ++ xs.take j) ++ (xs.drop j ++ post) := by
      rw [List.append_assoc, ← List.append_assoc (xs.take j), List.take_append_drop]
    have hg2 := hg
    rw [e1] at hg2
    have hg3 := setCells_heap vs (pre ++ xs.take j) (xs.drop j ++ post) w hg2 (by rw [List.length_append, List.length_drop]; omega)
    rw [hlen] at hg3
    obtain ⟨o1, o2, o3⟩ := setCells_same (g := g) vs (pre.length + j) w
    have hsat := Sat.put (o' := .cells ⟨pre ++ xs.take j ++ (vs ++ (xs.drop j ++ post).drop vs.length)⟩ e fz) hs o1 o2 o3 (fun k hk _ => setCells_other vs _ w k hk) hg3
    have e2 : (xs.drop j ++ post).drop vs.length = xs.drop (j + vs.length) ++ post := by
      rw [List.drop_append_of_le_length (by rw [List.length_drop]; omega), List.drop_drop]
    have hxl : (xs.take j ++ vs ++ xs.drop (j + vs.length)).length = xs.length := by simp only [List.length_append, List.length_take, List.length_drop]; omega
    refine ⟨Sat.turn (fun h hh => ⟨by rw [hxl]; exact hl, .inr ⟨g, cap, fz, pre, post, rfl, ?_, ?_, h3, h4, ?_⟩⟩) hsat, fun i hi => ⟨?_, ?_⟩⟩
    · rw [hh, e2]; simp
    · intro o ho; refine h2 o ?_; simp only [List.length_append] at ho hxl ⊢; omega
    · rw [List.length_append, hxl, ← List.length_append]; exact h5
    · have hj' : pre.length + j + i < (pre ++ (xs ++ post)).length := by simp only [List.length_append]; omega
      simp only [World.cell?, hg]
      simp at hj' ⊢
      omega
    · have hj' : pre.length + j + i < (pre ++ (xs ++ post)).length := by simp only [List.length_append]; omega
      have := h2 _ hj'
      obtain ⟨lo, hi'⟩ := fz
      simp only at this
      simp [World.frozen?, hg]
      omega

section
variable {c : Cx} {ops : Array Oper} {Q : Exit → Act → World → Prop} {E : Env} {R : Hp} {L M : List Asn} {rest : List Oper} {d : Option Tmp} {ty : TypeId} {p : String} {af : Array Edge} {g : Option (Nat × Bool)}
/-- what is appended -/
def SrcJ (c : Cx) (R : Hp) (L : List Asn) (tx : TypeId) (sz : Nat) (x : Value) (m : Nat) (news : List Value) : Prop := ∀ w, Sat c.σ R L w → Src c.P sz tx x m news w
theorem src_str {tx : TypeId} {s : List UInt8} (hk : c.P.underlying tx = some .string) : SrcJ c R L tx 1 (.string (str s)) s.length (bytesV s) := fun w _ => by
  have := Src.ofString w hk (str s)
  rwa [byteCells_str, str_size] at this
theorem src_slc {tx e' e : TypeId} {sz n : Nat} {v : Value} {xs : List Value} (hk : c.P.underlying tx = some (.slice e')) (f : Find (slc e sz v n xs) L M) (h1 : ∀ u ∈ xs, u.oneCell' = true) : SrcJ c R L tx sz v n xs := fun w hs => by
  obtain ⟨hl, h⟩ := (hs.find f).slc_cases
  rcases h with ⟨rfl, rfl, rfl⟩ | ⟨g, cap, fz, pre, post, rfl, _, _, _, _, hs⟩
  · exact Src.ofNil w hk 0
  · exact Src.ofSlice w hk _ _ _ _ hl (fun j u hj => by rw [add_mk]; exact row_cell (heap_of_one hs) hj) h1
theorem src_blk {tx e' e : TypeId} {sz n b k : Nat} {xs : List Value} (hk : c.P.underlying tx = some (.slice e')) (f : Find (blk b xs e) L M) (hl : xs.length = n * sz) (h1 : ∀ u ∈ xs, u.oneCell' = true) : SrcJ c R L tx sz (.slice (some ⟨b, 0, none⟩) n k) n xs := fun w hs =>
  Src.ofSlice w hk _ _ _ _ hl (fun j u hj => by rw [add_mk, (hs.find f).blk_cell, nth_eq, Nat.zero_add]; exact hj) h1
theorem src_ro {tx e' : TypeId} {sz n b off k : Nat} {xs : List Value} (hk : c.P.underlying tx = some (.slice e')) (hc : ∀ (j : Nat) u, xs[j]? = some u → Hp.cell R ⟨b, off + j, none⟩ = some u) (hl : xs.length = n * sz) (h1 : ∀ u ∈ xs, u.oneCell' = true) : SrcJ c R L tx sz (.slice (some ⟨b, off, none⟩) n k) n xs := fun w hs =>
  Src.ofSlice w hk _ _ _ _ hl (fun j u hj => by rw [add_mk]; exact hs.ro_cell (hc j u hj)) h1
theorem src_nil {tx e' : TypeId} {sz k : Nat} (hk : c.P.underlying tx = some (.slice e')) : SrcJ c R L tx sz (.slice none 0 k) 0 [] := fun w _ => Src.ofNil w hk k
theorem rj_append {d : Nat} {x y : Operand} {t tx e : TypeId} {sz by_ n m : Nat} {v u : Value} {xs news ys : List Value} (hT : AppT c.P t e sz by_)
    (hw : Wn c ops E ⟨some d, .call { callee := .builtin .append, args := #[x, y], argTypes := #[t, tx] }, ty, p, af, g⟩ true) (hn : Nat.blt d c.n = true)
    (e1 : ev E x = some v) (e2 : ev E y = some u) (f : Find (slc e sz v n xs) L M) (hsrc : SrcJ c R L tx sz u m news) (hys : xs ++ news = ys) (hbd : (n + m) * by_ ≤ 140737488355328) (hmx : n + m ≤ maxLen)
    (h : ∀ v', v'.oneCell' = true → (headed v → headed v') → RJ c ops Q rest ((d, v') :: E) R (slc e sz v' (n + m) ys :: M)) : RJ c ops Q (⟨some d, .call { callee := .builtin .append, args := #[x, y], argTypes := #[t, tx] }, ty, p, af, g⟩ :: rest) E R L := by
  intro a w hf hs
  unfold wpList
  rw [if_pos (hw a hf)]
  refine .inl ?_
  obtain ⟨v', w', h1, h2, h3⟩ := run_append (ty := ty) hT (hs.find f) (hsrc w hs) hbd hmx
  unfold Oper.wp
  have r : (execOp a.eval ⟨some d, .call { callee := .builtin .append, args := #[x, y], argTypes := #[t, tx] }, ty, p, af, g⟩).run c.P w = .ok (.value v') w' := by
    simp [execOp, resolve, invoke, builtin, hf.ev e1, hf.ev e2, h1]
  rw [r]
  simp only [Oper.upon]
  exact h v' (Sat.pure slc_one h2) h3 _ _ (hf.put hn v') (hys ▸ h2)
theorem y_len_slc {x : Operand} {t e e' : TypeId} {sz n : Nat} {v : Value} {xs : List Value} (hT : c.P.underlying t = some (.slice e)) (e1 : ev E x = some v) (f : Find (slc e' sz v n xs) L M) :
    Yld c E R L ⟨d, .call { callee := .builtin .len, args := #[x], argTypes := #[t] }, ty, p, af, g⟩ (.int .i64 n) := fun a w hf hs => by
  obtain ⟨q, k, rfl, _⟩ := Sat.pure slc_shape (hs.find f)
  exact y_len_sl hT e1 a w hf hs
theorem y_slice_slc {x : Operand} {lo hi : Option Operand} {t e e' : TypeId} {sz n l h : Nat} {v : Value} {xs : List Value} (hT : c.P.underlying t = some (.slice e)) (hS : ∀ w, (sizeOf e).run c.P w = .ok sz w) (e1 : ev E x = some v) (f : Find (slc e' sz v n xs) L M)
    (hl : match lo with | none => l = 0 | some o => ∃ ik, ev E o = some (.int ik (l : Int))) (hh : match hi with | none => h = n | some o => ∃ ik, ev E o = some (.int ik (h : Int))) (hb : l ≤ h ∧ h ≤ n) :
    Yld c E R L ⟨d, .slice t x lo hi none, ty, p, af, g⟩ (cutV v l h sz) := fun a w hf hs => by
  obtain ⟨q, k, rfl, hnk, _⟩ := Sat.pure slc_shape (hs.find f)
  exact y_slice_sl hT hS e1 hl hh ⟨hb.1, by omega⟩ a w hf hs
theorem y_index_slc {x y : Operand} {t e e' : TypeId} {sz n : Nat} {v : Value} {xs : List Value} {ik : IntKind} {i : Int} (hT : c.P.underlying t = some (.slice e)) (hS : ∀ w, (sizeOf e).run c.P w = .ok sz w) (e1 : ev E x = some v) (e2 : ev E y = some (.int ik i))
    (f : Find (slc e' sz v n xs) L M) (h : 0 ≤ i ∧ i < n) : Yld c E R L ⟨d, .indexAddr t x y, ty, p, af, g⟩ (cellV v (i.toNat * sz)) := fun a w hf hs => by
  obtain ⟨b, off, cap, rfl, hc⟩ := cellV_addr (by omega) (hs.find f)
  rw [hc]
  exact y_indexAddr hT hS e1 e2 h a w hf hs
theorem y_fieldAddr_slc {x : Operand} {s ft e' : TypeId} {fi k j sz n : Nat} {v : Value} {xs : List Value} {fs : Array Field} (hS : c.P.underlying s = some (.struct fs)) (hF : fieldOf fs fi = some (ft, k)) {m : Nat} (hm : m ≠ 0) (hZ : ∀ w, (sizeOf ft).run c.P w = .ok m w)
    (e : ev E x = some (cellV v j)) (f : Find (slc e' sz v n xs) L M) (hn : 0 < n) : Yld c E R L ⟨d, .fieldAddr s x fi, ty, p, af, g⟩ (cellV v (j + k)) := fun a w hf hs => by
  obtain ⟨b, off, cap, rfl, hc⟩ := cellV_addr hn (hs.find f)
  rw [hc, ← Nat.add_assoc]
  exact y_fieldAddr hS hF hm hZ (e.trans (by rw [hc])) a w hf hs
theorem y_nilCheck_slc {x : Operand} {e' : TypeId} {j sz n : Nat} {v : Value} {xs : List Value} (e : ev E x = some (cellV v j)) (f : Find (slc e' sz v n xs) L M) (hn : 0 < n) : Yld c E R L ⟨d, .nilCheck x, ty, p, af, g⟩ (cellV v j) := fun a w hf hs => by
  obtain ⟨b, off, cap, rfl, hc⟩ := cellV_addr hn (hs.find f)
  rw [hc] at e ⊢
  exact y_nilCheck e a w hf hs
theorem y_load_slc {x : Operand} {t e' : TypeId} {j sz n : Nat} {v u : Value} {xs : List Value} (hT : One c.P t) (e : ev E x = some (cellV v j)) (f : Find (slc e' sz v n xs) L M) (hu : nth xs j = some u) : Yld c E R L ⟨d, .load t x, ty, p, af, g⟩ u := fun a w hf hs => by
  obtain ⟨b, off, h1, h2⟩ := slc_tells hu (hs.find f)
  rw [h1] at e
  refine y_load_of (L := L) (R := R) hT e (fun w hs => ?_) a w hf hs
  obtain ⟨b', off', h1', h2'⟩ := slc_tells hu (hs.find f)
  rw [h1] at h1'
  cases h1'
  exact h2'
theorem y_loads_slc {x : Operand} {t e' : TypeId} {j sz n m : Nat} {v : Value} {xs vs : List Value} (hT : Many c.P t m) (e : ev E x = some (cellV v j)) (f : Find (slc e' sz v n xs) L M) (hv : (xs.drop j).take m = vs) (hm : vs.length = m) (hn : 0 < n) : Yld c E R L ⟨d, .load t x, ty, p, af, g⟩ (.agg ⟨vs⟩) := fun a w hf hs => by
  obtain ⟨b, off, cap, rfl, hc⟩ := cellV_addr hn (hs.find f)
  rw [hc] at e
  refine y_loads_of (L := L) (R := R) hT hm e (fun w hs i u hi => ?_) a w hf hs
  subst hv
  rw [List.getElem?_take] at hi
  split at hi
  · rw [List.getElem?_drop] at hi
    obtain ⟨b', off', h1', h2'⟩ := slc_tells (j := j + i) (by rw [nth_eq]; exact hi) (hs.find f)
    rw [hc] at h1'
    simp only [Value.pointer.injEq, Option.some.injEq, Addr.mk.injEq] at h1'
    obtain ⟨rfl, rfl, -⟩ := h1'
    rw [Nat.add_assoc]; exact h2'
  · cases hi
theorem rj_store_slc {x y : Operand} {t e' : TypeId} {j sz n : Nat} {v u : Value} {xs ys : List Value} (hT : One c.P t) (hw : Wn c ops E ⟨none, .store t x y, ty, p, af, g⟩ true) (e1 : ev E x = some (cellV v j)) (e2 : ev E y = some u) (hu : u.oneCell' = true)
    (f : Find (slc e' sz v n xs) L M) (hj : j < xs.length) (hys : setNth xs j u = ys) (hn : 0 < n) (h : RJ c ops Q rest E R (slc e' sz v n ys :: M)) : RJ c ops Q (⟨none, .store t x y, ty, p, af, g⟩ :: rest) E R L := by
  refine rj_runs hw rfl (fun a w hf hs => ?_) h
  obtain ⟨b, off, cap, hv, hc⟩ := cellV_addr hn (hs.find f)
  have hset := Sat.slc_set (vs := [u]) (hs.find f) (j := j) hj (hc j)
  obtain ⟨hs2, hcell⟩ := hset
  have hcell := hcell 0 (by simp)
  simp only [Nat.add_zero] at hcell
  obtain ⟨z, hz⟩ := Option.isSome_iff_exists.1 hcell.1
  have hcu : u.cells = #[u] := by cases u <;> first | rfl | simp [Value.oneCell'] at hu
  have hst : (store ⟨b, off + j, none⟩ u).run c.P w = .ok () (w.setCell ⟨b, off + j, none⟩ u) := by
    have hfz := hcell.2
    cases u <;> first | (simp [Value.oneCell'] at hu; done) | simp [store, Sem.run, hz, hfz]
  have e1' := e1
  rw [hc] at e1'
  have hye : xs.take j ++ [u] ++ xs.drop (j + [u].length) = ys := by
    rw [← hys, setNth_eq]
    simp only [List.length_cons, List.length_nil, List.append_assoc, List.singleton_append]
    rw [List.set_eq_take_append_cons_drop, if_pos hj]
  rw [hye] at hs2
  refine ⟨_, ?_, hs2⟩
  simp [execOp, hf.ev e1', hf.ev e2, Instr.storeAt, Instr.sureAddr, storeVar, hT.2, hcu, storeCells, add_mk, hst, World.setCells]
/-- bytes and texts -/
theorem y_str_slc {x : Operand} {s t e e' : TypeId} {n : Nat} {v : Value} {bs : List UInt8} (hS : c.P.underlying s = some (.slice e)) (hE : c.P.underlying e = some (.int .u8)) (hT : c.P.underlying t = some .string)
    (e1 : ev E x = some v) (f : Find (slc e' 1 v n (bytesV bs)) L M) : Yld c E R L ⟨d, .convert s t x, ty, p, af, g⟩ (.string (str bs)) := fun a w hf hs => by
  obtain ⟨hl, h⟩ := (hs.find f).slc_cases
  rcases h with ⟨rfl, rfl, h0⟩ | ⟨q, cap, fz, pre, post, rfl, _, _, _, _, hs2⟩
  · have : bs = [] := by simpa [bytesV] using h0
    subst this
    have r := run_convert_bytes_nil (P := c.P) w s e hS hE 0 0 t hT
    have e0 : (ByteArray.empty) = str [] := rfl
    simp [execOp, hf.ev e1, r, Oper.quietUpon, e0]
  · refine y_bytes_str hS hE hT e1 (by rw [bytesV_length] at hl; omega) (fun w hs j u hj => ?_) a w hf hs
    have hx : (bytesV bs)[j]? = some (.int .u8 (u.toNat : Int)) := by simp [bytesV, hj]
    obtain ⟨b', off', h1', h2'⟩ := slc_tells (by rw [nth_eq]; exact hx) (hs.find f)
    simp only [cellV, add_mk, Value.pointer.injEq, Option.some.injEq, Addr.mk.injEq] at h1'
    obtain ⟨rfl, rfl, -⟩ := h1'
    exact h2'
theorem rj_bytes {d : Nat} {x : Operand} {s t e : TypeId} {bs : List UInt8} (hw : Wn c ops E ⟨some d, .convert s t x, ty, p, af, g⟩ true) (hn : Nat.blt d c.n = true) (hS : c.P.underlying s = some .string) (hT : c.P.underlying t = some (.slice e)) (hE : c.P.underlying e = some (.int .u8))
    (e1 : ev E x = some (.string (str bs))) (hm : bs.length ≤ maxLen) (h : ∀ v', v'.oneCell' = true → RJ c ops Q rest ((d, v') :: E) R (slc e 1 v' bs.length (bytesV bs) :: L)) : RJ c ops Q (⟨some d, .convert s t x, ty, p, af, g⟩ :: rest) E R L := by
  intro a w hf hs
  unfold wpList
  rw [if_pos (hw a hf)]
  refine .inl ?_
  unfold Oper.wp
  have r := run_bytes_of_string (P := c.P) w s t e (str bs) hS hT hE
  simp only [execOp, hf.ev e1, Sem.run_bind, r, Result.andThen_ok, Sem.run_pure, Oper.upon]
  refine h _ rfl _ _ (hf.put hn _) ?_
  refine Sat.turn (fun h hh => ?_) (hs.drew.alloc (.cells (bytesRow (str bs) (grownCap w (str bs).size 0 e)) e ((bytesRow (str bs) (grownCap w (str bs).size 0 e)).size, (bytesRow (str bs) (grownCap w (str bs).size 0 e)).size + 1)))
  have hge := grownCap_ge w (str bs).size 0 e
  have hle := grownCap_le_maxLen w (str bs).size 0 e (by rw [str_size]; exact hm)
  have hrow : bytesRow (str bs) (grownCap w (str bs).size 0 e) = ⟨[] ++ (bytesV bs ++ List.replicate (grownCap w (str bs).size 0 e - (str bs).size) (Value.int .u8 0))⟩ := by
    apply Array.ext'; simp [bytesRow, bytesV]
  refine ⟨by rw [bytesV_length]; omega, .inr ⟨w.heap.size, grownCap w (str bs).size 0 e, ((bytesRow (str bs) (grownCap w (str bs).size 0 e)).size, (bytesRow (str bs) (grownCap w (str bs).size 0 e)).size + 1), [],
    List.replicate (grownCap w (str bs).size 0 e - (str bs).size) (Value.int .u8 0), by rw [str_size]; rfl, ?_, fun o ho => ?_, by rw [str_size] at hge; exact hge, hle, ?_⟩⟩
  · rw [← hrow]; exact hh
  · have hsz : (bytesRow (str bs) (grownCap w (str bs).size 0 e)).size = ([] ++ (bytesV bs ++ List.replicate (grownCap w (str bs).size 0 e - (str bs).size) (Value.int .u8 0))).length := by rw [hrow]; rfl
    simp only [hsz]
    omega
  · rw [List.length_append, bytesV_length, List.length_replicate, str_size]
    rw [str_size] at hge
    omega
/-- max and min -/
theorem y_max {x y : Operand} {ts : Array TypeId} {k : IntKind} {m n : Int} (e1 : ev E x = some (.int k m)) (e2 : ev E y = some (.int k n)) :
    Yld c E R L ⟨d, .call { callee := .builtin .max, args := #[x, y], argTypes := ts }, ty, p, af, g⟩ (.int k (max m n)) := fun _ w hf _ => by
  have r : (Builtin.max_ ts ty #[.int k m, .int k n]).run c.P w = .ok (.int k (max m n)) w := by
    simp [Builtin.max_, Builtin.max2]; omega
  simp [execOp, resolve, invoke, builtin, hf.ev e1, hf.ev e2, r, Oper.quietUpon]
theorem y_min {x y : Operand} {ts : Array TypeId} {k : IntKind} {m n : Int} (e1 : ev E x = some (.int k m)) (e2 : ev E y = some (.int k n)) :
    Yld c E R L ⟨d, .call { callee := .builtin .min, args := #[x, y], argTypes := ts }, ty, p, af, g⟩ (.int k (min m n)) := fun _ w hf _ => by
  have r : (Builtin.min_ ts ty #[.int k m, .int k n]).run c.P w = .ok (.int k (min m n)) w := by
    simp [Builtin.min_, Builtin.min2]; omega
  simp [execOp, resolve, invoke, builtin, hf.ev e1, hf.ev e2, r, Oper.quietUpon]
end
end V
end Go.Proofs.Ytcgjlhhfldkdaaa
