/- Maps of our own, with whole numbers for keys. -/
import Derived.Test.YthdmbdbncbdmiaaV13
import Derived.MapKept
import Derived.Laws.IdiomRangeMap
set_option linter.unusedSimpArgs false
set_option linter.unusedVariables false
namespace Go.Proofs.Ythdmbdbncbdmiaa
open Go.RowKit
namespace V
/-- a map: which value a key has, how many there are -/
def mapG (es : Array MapEntry) (clock : Nat) (ik : IntKind) (f : Int → Option Value) (n : Nat) : Prop :=
  MapKept.Stamped es clock ∧ (∀ x ∈ es.toList, ∃ a, x.key = .int ik a) ∧ (∀ a v, f a = some v ↔ ∃ x ∈ es.toList, x.key = .int ik a ∧ x.val = v) ∧ es.size = n
def mapF (b : Nat) (ik : IntKind) (f : Int → Option Value) (n : Nat) : Asn := fun h => ∃ es clock, h b = some (.map es clock) ∧ mapG es clock ik f n
def objA (b : Nat) (o : Obj) : Asn := fun h => h b = some o
def fset (f : Int → Option Value) (a : Int) (v : Value) : Int → Option Value := fun k => if k = a then some v else f k
theorem mapG_empty (clock : Nat) (ik : IntKind) : mapG #[] clock ik (fun _ => none) 0 := ⟨MapKept.stamped_empty clock, by simp, by simp, rfl⟩
theorem mapG.isKey {es : Array MapEntry} {clock : Nat} {ik : IntKind} {f : Int → Option Value} {n : Nat} (h : mapG es clock ik f n) : ∀ x ∈ es.toList, MapKept.IsKey (.int ik) x.key := fun x hx => by
  obtain ⟨a, e⟩ := h.2.1 x hx; rw [e]; exact rfl
theorem mapG.push {es : Array MapEntry} {clock : Nat} {ik : IntKind} {f : Int → Option Value} {n : Nat} (h : mapG es clock ik f n) {a : Int} {v : Value} (hn : ∀ x ∈ es.toList, x.key ≠ .int ik a) : mapG (es.push { key := .int ik a, val := v, born := clock }) (clock + 1) ik (fset f a v) (n + 1) ∧ f a = none := by
  obtain ⟨h1, h2, h3, h4⟩ := h
  have hfa : f a = none := by
    cases hf : f a with
    | none => rfl
    | some u => obtain ⟨x, hx, e, _⟩ := (h3 a u).1 hf; exact absurd e (hn x hx)
  refine ⟨⟨MapKept.stamped_push h1 hn, ?_, ?_, by simp [h4]⟩, hfa⟩
  · intro x hx
    simp only [Array.toList_push, List.mem_append, List.mem_singleton] at hx
    rcases hx with hx | rfl
    · exact h2 x hx
    · exact ⟨a, rfl⟩
  · intro k u
    unfold fset
    simp only [Array.toList_push, List.mem_append, List.mem_singleton]
    by_cases hk : k = a
    · subst hk
      rw [if_pos rfl]
      constructor
      · intro e; cases e; exact ⟨_, .inr rfl, rfl, rfl⟩
      · rintro ⟨x, hx | rfl, e1, e2⟩
        · exact absurd e1 (hn x hx)
        · rw [← e2]
    · rw [if_neg hk, h3]
      constructor
      · rintro ⟨x, hx, e1, e2⟩; exact ⟨x, .inl hx, e1, e2⟩
      · rintro ⟨x, hx | rfl, e1, e2⟩
        · exact ⟨x, hx, e1, e2⟩
        · cases e1; exact absurd rfl hk
theorem mapG.modify {es : Array MapEntry} {clock : Nat} {ik : IntKind} {f : Int → Option Value} {n : Nat} (h : mapG es clock ik f n) {a : Int} {v : Value} {j : Nat} {e : MapEntry} (hj : es[j]? = some e) (he : e.key = .int ik a) :
    mapG (es.modify j fun e => { e with key := .int ik a, val := v }) clock ik (fset f a v) n ∧ f a = some e.val := by
  obtain ⟨h1, h2, h3, h4⟩ := h
  have hmem : e ∈ es.toList := by rw [← Array.getElem?_toList] at hj; exact List.mem_of_getElem? hj
  have hkey : ∀ e', es[j]? = some e' → ({ e' with key := .int ik a, val := v } : MapEntry).key = e'.key := fun e' he' => by rw [hj] at he'; cases he'; exact he.symm
  have hget : ∀ i, (es.modify j fun e => { e with key := .int ik a, val := v })[i]? = if j = i then (es[i]?).map (fun e => { e with key := .int ik a, val := v }) else es[i]? := fun i => by rw [Array.getElem?_modify]
  have hnd : ∀ (i : Nat) (x : MapEntry), es[i]? = some x → x.key = .int ik a → i = j := fun i x hx hk => by
    have h5 := h1.2.2
    have hi : (es.toList.map (·.key))[i]? = some (.int ik a) := by simp [hx, hk]
    have hj' : (es.toList.map (·.key))[j]? = some (.int ik a) := by simp [hj, he]
    have a1 := (List.getElem?_eq_some_iff.1 hi).1
    have a2 := (List.getElem?_eq_some_iff.1 hj').1
    rw [List.getElem?_eq_getElem a1] at hi
    rw [List.getElem?_eq_getElem a2] at hj'
    exact (List.getElem_inj h5).1 ((Option.some.inj hi).trans (Option.some.inj hj').symm)
  refine ⟨⟨MapKept.stamped_modify h1 _ _ (fun _ _ => rfl) (fun e' _ he' => hkey e' he'), ?_, ?_, by simp [h4]⟩, (h3 a e.val).2 ⟨e, hmem, he, rfl⟩⟩
  · intro x hx
    obtain ⟨i, hi, rfl⟩ := List.getElem_of_mem hx
    have hi2 := hget i
    rw [← Array.getElem?_toList, List.getElem?_eq_getElem hi] at hi2
    by_cases hij : j = i
    · subst hij; rw [if_pos rfl, hj] at hi2; simp only [Option.map_some, Option.some.injEq] at hi2; rw [hi2]; exact ⟨a, rfl⟩
    · rw [if_neg hij] at hi2
      have hm' := hi2.symm
      rw [← Array.getElem?_toList] at hm'
      exact h2 _ (List.mem_of_getElem? hm')
  · intro k u
    have hm : ∀ x, x ∈ (es.modify j fun e => { e with key := .int ik a, val := v }).toList ↔ ∃ i, (es.modify j fun e => { e with key := .int ik a, val := v })[i]? = some x := fun x => by
      rw [List.mem_iff_getElem?]
      constructor
      · rintro ⟨i, hi⟩; exact ⟨i, by rw [← Array.getElem?_toList]; exact hi⟩
      · rintro ⟨i, hi⟩; exact ⟨i, by rw [Array.getElem?_toList]; exact hi⟩
    have hm0 : ∀ x, x ∈ es.toList ↔ ∃ i, es[i]? = some x := fun x => by
      rw [List.mem_iff_getElem?]
      constructor
      · rintro ⟨i, hi⟩; exact ⟨i, by rw [← Array.getElem?_toList]; exact hi⟩
      · rintro ⟨i, hi⟩; exact ⟨i, by rw [Array.getElem?_toList]; exact hi⟩
    unfold fset
    by_cases hk : k = a
    · subst hk
      rw [if_pos rfl]
      constructor
      · intro e0; cases e0
        exact ⟨{ e with key := .int ik k, val := v }, (hm _).2 ⟨j, by rw [hget, if_pos rfl, hj]; rfl⟩, rfl, rfl⟩
      · rintro ⟨x, hx, e1, e2⟩
        obtain ⟨i, hi⟩ := (hm x).1 hx
        rw [hget] at hi
        by_cases hij : j = i
        · subst hij; rw [if_pos rfl, hj] at hi; simp only [Option.map_some, Option.some.injEq] at hi; rw [← e2, ← hi]
        · rw [if_neg hij] at hi; exact absurd (hnd i x hi e1).symm hij
    · rw [if_neg hk, h3]
      constructor
      · rintro ⟨x, hx, e1, e2⟩
        obtain ⟨i, hi⟩ := (hm0 x).1 hx
        refine ⟨x, (hm x).2 ⟨i, ?_⟩, e1, e2⟩
        rw [hget, if_neg]
        · exact hi
        · rintro rfl; rw [hj] at hi; cases hi; rw [he] at e1; cases e1; exact hk rfl
      · rintro ⟨x, hx, e1, e2⟩
        obtain ⟨i, hi⟩ := (hm x).1 hx
        rw [hget] at hi
        by_cases hij : j = i
        · subst hij; rw [if_pos rfl, hj] at hi; simp only [Option.map_some, Option.some.injEq] at hi; rw [← hi] at e1; cases e1; exact absurd rfl hk
        · rw [if_neg hij] at hi; exact ⟨x, (hm0 x).2 ⟨i, hi⟩, e1, e2⟩
theorem Sat.map_cases {σ : World} {R : Hp} {L : List Asn} {w : World} {b : Nat} {ik : IntKind} {f : Int → Option Value} {n : Nat} (s : Sat σ R (mapF b ik f n :: L) w) : ∃ es clock, mapG es clock ik f n ∧ Sat σ R (objA b (.map es clock) :: L) w := by
  obtain ⟨g, a, d, h1, h2, c1, c2, c3, ⟨es, clock, hb, hg⟩, c5⟩ := s.own
  exact ⟨es, clock, hg, s.os, s.tape, s.output, s.ro, g, a, d, h1, h2, c1, c2, c3, hb, c5⟩
theorem Sat.map_back {σ : World} {R : Hp} {L : List Asn} {w : World} {b clock : Nat} {es : Array MapEntry} {ik : IntKind} {f : Int → Option Value} {n : Nat} (s : Sat σ R (objA b (.map es clock) :: L) w) (h : mapG es clock ik f n) : Sat σ R (mapF b ik f n :: L) w :=
  s.turn fun h0 hb => ⟨es, clock, hb, h⟩
theorem obj_heap {σ : World} {R : Hp} {L : List Asn} {w : World} {b : Nat} {o : Obj} (s : Sat σ R (objA b o :: L) w) : w.heap[b]? = some o := heap_of_one s
theorem Sat.obj_set {σ : World} {R : Hp} {L : List Asn} {w : World} {b : Nat} {o : Obj} (o' : Obj) (s : Sat σ R (objA b o :: L) w) : Sat σ R (objA b o' :: L) { w with heap := w.heap.setIfInBounds b o' } := by
  obtain ⟨e1, e2⟩ := MapKept.heap_set (o' := o') (obj_heap s)
  exact Sat.put (o := o) s rfl rfl rfl (fun k hk _ => e2 k hk) e1
section
variable {c : Cx} {ops : Array Oper} {Q : Exit → Act → World → Prop} {E : Env} {R : Hp} {L M : List Asn} {rest : List Oper} {d : Option Tmp} {ty : TypeId} {p : String} {af : Array Edge} {g : Option (Nat × Bool)}
theorem rj_makeMap {dd : Nat} {t : TypeId} {ik : IntKind} (hw : Wn c ops E ⟨some dd, .makeMap t none, ty, p, af, g⟩ true) (hn : Nat.blt dd c.n = true)
    (h : ∀ b, RJ c ops Q rest ((dd, .map (some b)) :: E) R (mapF b ik (fun _ => none) 0 :: L)) : RJ c ops Q (⟨some dd, .makeMap t none, ty, p, af, g⟩ :: rest) E R L := by
  refine rj_new (v := fun b => .map (some b)) (L' := fun b => mapF b ik (fun _ => none) 0 :: L) hw rfl hn (fun a w hf hs => ⟨w.heap.size, w.alloc (.map #[] 0), ?_, ?_⟩) h
  · simp [execOp, Instr.makeMap]
  · exact Sat.map_back (es := #[]) (clock := 0) (hs.alloc _) (mapG_empty 0 ik)
theorem run_mapUpdate {P : Program} {σ : World} {w : World} {t kt et : TypeId} {ik : IntKind} (hm : P.underlying t = some (.map kt et)) (hd : P.underlying kt = some (.int ik)) {b : Nat} {f : Int → Option Value} {n : Nat} (s : Sat σ R (mapF b ik f n :: L) w) (a : Int) (v : Value) :
    ∃ w', (Instr.mapUpdate t (.map (some b)) (.int ik a) v).run P w = .ok () w' ∧ Sat σ R (mapF b ik (fset f a v) (if (f a).isSome then n else n + 1) :: L) w' := by
  obtain ⟨es, clock, hg, s2⟩ := s.map_cases
  have hb := obj_heap s2
  have hk : MapKept.IsKey (.int ik) (.int ik a) := rfl
  rcases MapKept.findNow_spec hk es.toList 0 hg.isKey with ⟨h1, h2⟩ | ⟨j, e, h1, h2, h3⟩
  · obtain ⟨hp, hfa⟩ := hg.push (v := v) h2
    refine ⟨{ w with heap := w.heap.setIfInBounds b (.map (es.push { key := .int ik a, val := v, born := clock }) (clock + 1)) }, ?_, ?_⟩
    rotate_left
    · rw [hfa]; exact Sat.map_back (s2.obj_set (.map (es.push { key := .int ik a, val := v, born := clock }) (clock + 1))) hp
    · simp [Instr.mapUpdate, run_underlying hm, MapKept.run_getObj_map hb, MapKept.run_checkKey hd hk, MapKept.run_findKey hd h1, MapKept.run_setObj_map _ hb, Result.andThen]
  · have hj : es[j]? = some e := by simpa using h2
    obtain ⟨hp, hfa⟩ := hg.modify (v := v) hj h3
    refine ⟨{ w with heap := w.heap.setIfInBounds b (.map (es.modify j fun e => { e with key := .int ik a, val := v }) clock) }, ?_, ?_⟩
    rotate_left
    · rw [hfa]; exact Sat.map_back (s2.obj_set (.map (es.modify j fun e => { e with key := .int ik a, val := v }) clock)) hp
    · simp [Instr.mapUpdate, run_underlying hm, MapKept.run_getObj_map hb, MapKept.run_checkKey hd hk, MapKept.run_findKey hd h1, hj, h3, MapKept.run_keyThatStays hk, MapKept.run_setObj_map _ hb, Result.andThen]
theorem rj_mapUpdate {t kt et : TypeId} {ik : IntKind} {m x y : Operand} {b : Nat} {f : Int → Option Value} {n : Nat} {a : Int} {v : Value} (hm : c.P.underlying t = some (.map kt et)) (hd : c.P.underlying kt = some (.int ik))
    (hw : Wn c ops E ⟨none, .mapUpdate t m x y, ty, p, af, g⟩ true) (e1 : ev E m = some (.map (some b))) (e2 : ev E x = some (.int ik a)) (e3 : ev E y = some v) (fd : Find (mapF b ik f n) L M)
    (h : RJ c ops Q rest E R (mapF b ik (fset f a v) (if (f a).isSome then n else n + 1) :: M)) : RJ c ops Q (⟨none, .mapUpdate t m x y, ty, p, af, g⟩ :: rest) E R L := by
  refine rj_runs hw rfl (fun ac w hf hs => ?_) h
  obtain ⟨w', h1, h2⟩ := run_mapUpdate hm hd (hs.find fd) a v
  exact ⟨w', by simp [execOp, hf.ev e1, hf.ev e2, hf.ev e3, h1], h2⟩
theorem y_lookup {t kt et : TypeId} {ik : IntKind} {m x : Operand} {b : Nat} {f : Int → Option Value} {n : Nat} {a : Int} {z : Value} {ok : Bool} (hm : c.P.underlying t = some (.map kt et)) (hd : c.P.underlying kt = some (.int ik)) (hz : ∀ w, (zeroValue et).run c.P w = .ok z w)
    (e1 : ev E m = some (.map (some b))) (e2 : ev E x = some (.int ik a)) (fd : Find (mapF b ik f n) L M) :
    Yld c E R L ⟨d, .lookup t m x ok, ty, p, af, g⟩ (if ok then .tuple #[(f a).getD z, .bool (f a).isSome] else (f a).getD z) := fun ac w hf hs => by
  obtain ⟨es, clock, hg, s2⟩ := (hs.find fd).map_cases
  have hb := obj_heap s2
  have hk : MapKept.IsKey (.int ik) (.int ik a) := rfl
  have r : (Instr.lookup t (.map (some b)) (.int ik a) ok).run c.P w = .ok (if ok then .tuple #[(f a).getD z, .bool (f a).isSome] else (f a).getD z) w := by
    rcases MapKept.findNow_spec hk es.toList 0 hg.isKey with ⟨h1, h2⟩ | ⟨j, e, h1, h2, h3⟩
    · have hfa := (hg.push (v := z) h2).2
      rw [hfa]
      simp [Instr.lookup, run_underlying hm, MapKept.run_getObj_map hb, MapKept.run_checkKey hd hk, MapKept.run_findKey hd h1, hz, Result.andThen]
    · have hj : es[j]? = some e := by simpa using h2
      have hfa := (hg.modify (v := z) hj h3).2
      rw [hfa]
      simp [Instr.lookup, run_underlying hm, MapKept.run_getObj_map hb, MapKept.run_checkKey hd hk, MapKept.run_findKey hd h1, Result.andThen]
  simp [execOp, hf.ev e1, hf.ev e2, r, Oper.quietUpon]
theorem y_len_map {x : Operand} {t kt et : TypeId} {ik : IntKind} {b : Nat} {f : Int → Option Value} {n : Nat} (hm : c.P.underlying t = some (.map kt et)) (e1 : ev E x = some (.map (some b))) (fd : Find (mapF b ik f n) L M) :
    Yld c E R L ⟨d, .call { callee := .builtin .len, args := #[x], argTypes := #[t] }, ty, p, af, g⟩ (.int .i64 n) := fun ac w hf hs => by
  obtain ⟨es, clock, hg, s2⟩ := (hs.find fd).map_cases
  have hb := obj_heap s2
  have r : (Builtin.len_ #[t] ty #[.map (some b)]).run c.P w = .ok (goInt n) w := by
    rw [← hg.2.2.2]
    simp [Builtin.len_, run_underlying hm, MapKept.run_getObj_map hb]
  simp [execOp, resolve, invoke, builtin, hf.ev e1, r, Oper.quietUpon, goInt]
/-! ### all entries, in whatever order -/
/-- what 'next' hands out -/
def nextV (b : Bool) (k v : Value) : Value := .tuple (if b then #[.bool true, k, v] else #[.bool false])
theorem nextV_0 (b : Bool) (k v : Value) : ∃ vs, nextV b k v = .tuple vs ∧ vs[0]? = some (.bool b) := ⟨_, rfl, by cases b <;> rfl⟩
theorem cj_mapOpen {x : Code} {b : Nat} {ik : IntKind} {f : Int → Option Value} {n : Nat} (fd : Find (mapF b ik f n) L M) (h : ∀ es clock, mapG es clock ik f n → CJ c x Q E R (objA b (.map es clock) :: M)) : CJ c x Q E R L := fun a w hf hs => by
  obtain ⟨es, clock, hg, s2⟩ := (hs.find fd).map_cases
  exact h es clock hg a w hf s2
theorem rj_mapOpen {l : List Oper} {b : Nat} {ik : IntKind} {f : Int → Option Value} {n : Nat} (fd : Find (mapF b ik f n) L M) (h : ∀ es clock, mapG es clock ik f n → RJ c ops Q l E R (objA b (.map es clock) :: M)) : RJ c ops Q l E R L := fun a w hf hs => by
  obtain ⟨es, clock, hg, s2⟩ := (hs.find fd).map_cases
  exact h es clock hg a w hf s2
theorem rj_range_map {dd : Nat} {t kt et : TypeId} {x : Operand} {b clock : Nat} {es : Array MapEntry} (hm : c.P.underlying t = some (.map kt et)) (hw : Wn c ops E ⟨some dd, .range t x, ty, p, af, g⟩ true) (hn : Nat.blt dd c.n = true) (e1 : ev E x = some (.map (some b))) (fd : Find (objA b (.map es clock)) L M)
    (h : ∀ r, RJ c ops Q rest ((dd, .pointer (some ⟨r, 0, none⟩)) :: E) R (objA r (.mapIter (some b) clock #[] clock) :: L)) : RJ c ops Q (⟨some dd, .range t x, ty, p, af, g⟩ :: rest) E R L := by
  refine rj_new (v := fun r => .pointer (some ⟨r, 0, none⟩)) (L' := fun r => objA r (.mapIter (some b) clock #[] clock) :: L) hw rfl hn (fun a w hf hs => ⟨w.heap.size, w.alloc (.mapIter (some b) clock #[] clock), ?_, hs.alloc _⟩) h
  have hb := obj_heap (hs.find fd)
  simp [execOp, hf.ev e1, Instr.range, run_underlying hm, MapKept.run_getObj_map hb]
theorem run_next {P : Program} {σ : World} {w : World} {ty : TypeId} {r b since c0 clock : Nat} {seen : Array Nat} {es : Array MapEntry} (s : Sat σ R (objA r (.mapIter (some b) since seen c0) :: L) w) (hb : w.heap[b]? = some (.map es clock)) (hold : ∀ x ∈ es.toList, x.born < since) (hsc : since ≤ c0) :
    ∃ (bb : Bool) (e : MapEntry) (w' : World), (bb = false → (leftOf es seen).size = 0) ∧ (bb = true → e ∈ (leftOf es seen).toList) ∧ (Instr.next (.pointer (some ⟨r, 0, none⟩)) false ty).run P w = .ok (nextV bb e.key e.val) w' ∧
      Sat σ R (objA r (.mapIter (some b) since (if bb then seen.push e.born else seen) (if bb then clock else c0)) :: L) w' := by
  have hr := obj_heap s
  have hgr : (getObj r).run P w = .ok (.mapIter (some b) since seen c0) w := by simp [getObj, Sem.run, hr]
  have hgb : (getObj b).run P w = .ok (.map es clock) w := MapKept.run_getObj_map hb
  have hmem : ∀ x ∈ (leftOf es seen).toList, x.born < since := fun x hx => hold x (mem_left hx).1
  have key : ∀ z, (∀ L0, L0 = leftOf es seen → ((choose (Question.mapNext ((if L0.isEmpty = true then (#[none] : Array (Option MapEntry)) else #[]) ++ L0.map some).size)).run P w).andThen (fun j w1 => (match ((if L0.isEmpty = true then (#[none] : Array (Option MapEntry)) else #[]) ++ L0.map some)[j]? with
      | some (some e) => (do
          setObj r (.mapIter (some b) since (seen.push e.born) clock)
          pure (.tuple #[.bool true, e.key, e.val]) : Sem Value)
      | some none => pure (.tuple #[.bool false])
      | none => stuck "Next: no such candidate").run P w1) = z) → (Instr.next (.pointer (some ⟨r, 0, none⟩)) false ty).run P w = z := by
    intro z hz
    have h1 := hz _ rfl
    rw [← h1]
    unfold Instr.next
    simp only [Sem.run_bind, hgr, Result.andThen_ok, hgb, next_test_false seen es since c0 hold hsc, Bool.false_eq_true, if_false]
    have e0 : (es.filter fun e => !seen.contains e.born) = leftOf es seen := rfl
    simp only [e0]
    generalize leftOf es seen = L0 at hmem ⊢
    have e1 : L0.filter (fun x => decide (x.born < since)) = L0 := Array.filter_eq_self.2 (fun x hx => by simpa using hmem x (by simpa using hx))
    have e2 : L0.filter (fun x => decide (x.born ≥ since)) = #[] := by
      rw [Array.filter_eq_empty_iff]
      intro x hx
      have := hmem x (by simpa using hx)
      simp; omega
    simp only [e1, e2, Array.append_empty]
    rfl
  by_cases h0 : (leftOf es seen).size = 0
  · refine ⟨false, { key := .bool false, val := .bool false, born := 0 }, w, fun _ => h0, fun h => (by cases h), ?_, by simpa using s⟩
    refine key _ (fun L0 hL => ?_)
    have : L0 = #[] := by rw [hL]; exact Array.eq_empty_of_size_eq_zero h0
    subst this
    simp [choose, Sem.run, Question.forced, nextV, Result.andThen]
  · have hch : ∃ (j : Nat) (w1 : World), j < (leftOf es seen).size ∧ (choose (Question.mapNext (leftOf es seen).size)).run P w = .ok j w1 ∧ Sat σ R (objA r (.mapIter (some b) since seen c0) :: L) w1 := by
      by_cases hf : (leftOf es seen).size ≤ 1
      · exact ⟨0, w, by omega, by simp [choose, Sem.run, Question.forced, hf], s⟩
      · exact ⟨_, w.drew, Nat.mod_lt _ (by omega), by
          simp only [choose, Sem.run, Question.forced, decide_eq_true_eq, hf, if_false, Question.cut]
          rfl, s.drew⟩
    obtain ⟨j, w1, hj, hrun, s1⟩ := hch
    have hr1 := obj_heap s1
    refine ⟨true, (leftOf es seen)[j], _, fun h => (by cases h), fun _ => by simp, ?_, s1.obj_set _⟩
    refine key _ (fun L0 hL => ?_)
    subst hL
    have hne : (leftOf es seen).isEmpty = false := by simp [Array.isEmpty, h0]
    have hset : (setObj r (.mapIter (some b) since (seen.push ((leftOf es seen)[j]).born) clock)).run P w1 = .ok () { w1 with heap := w1.heap.setIfInBounds r (.mapIter (some b) since (seen.push ((leftOf es seen)[j]).born) clock) } := by simp [setObj, Sem.run, hr1]
    simp only [hne, Bool.false_eq_true, if_false, Array.empty_append, Array.size_map, hrun, Result.andThen_ok, Array.getElem?_map, Array.getElem?_eq_getElem hj, Option.map_some, Sem.run_bind, hset, if_true, Sem.run_pure]
    rfl
theorem rj_next_map {dd : Nat} {x : Operand} {r b since c0 clock : Nat} {seen : Array Nat} {es : Array MapEntry} (hw : Wn c ops E ⟨some dd, .next x false, ty, p, af, g⟩ true) (hn : Nat.blt dd c.n = true) (e1 : ev E x = some (.pointer (some ⟨r, 0, none⟩)))
    (fm : ∀ {σ : World} {w : World}, Sat σ R L w → w.heap[b]? = some (.map es clock)) (fr : Find (objA r (.mapIter (some b) since seen c0)) L M) (hold : ∀ x ∈ es.toList, x.born < since) (hsc : since ≤ c0)
    (h : ∀ (bb : Bool) (e : MapEntry), (bb = false → (leftOf es seen).size = 0) → (bb = true → e ∈ (leftOf es seen).toList) →
      RJ c ops Q rest ((dd, nextV bb e.key e.val) :: E) R (objA r (.mapIter (some b) since (if bb then seen.push e.born else seen) (if bb then clock else c0)) :: M)) : RJ c ops Q (⟨some dd, .next x false, ty, p, af, g⟩ :: rest) E R L := by
  intro a w hf hs
  unfold wpList
  rw [if_pos (hw a hf)]
  refine .inl ?_
  obtain ⟨bb, e, w', h1, h2, h3, h4⟩ := run_next (P := c.P) (ty := ty) (hs.find fr) (fm hs) hold hsc
  unfold Oper.wp
  have r0 : (execOp a.eval ⟨some dd, .next x false, ty, p, af, g⟩).run c.P w = .ok (.value (nextV bb e.key e.val)) w' := by simp [execOp, hf.ev e1, h3]
  rw [r0]
  simp only [Oper.upon]
  exact h bb e h1 h2 _ _ (hf.put hn _) h4
theorem y_entry {x : Operand} {r b since clock : Nat} {seen : Array Nat} {es : Array MapEntry} {e : MapEntry} (e1 : ev E x = some (.pointer (some ⟨r, 0, none⟩))) (fm : ∀ {σ : World} {w : World}, Sat σ R L w → w.heap[b]? = some (.map es clock)) (fr : Find (objA r (.mapIter (some b) since (seen.push e.born) clock)) L M)
    (he : e ∈ es.toList) (hn : (es.toList.map (·.born)).Nodup) : Yld c E R L ⟨d, .entry x, ty, p, af, g⟩ (.tuple #[e.key, e.val]) := fun a w hf hs => by
  have hr := obj_heap (hs.find fr)
  have hb := fm hs
  have hfind : es.find? (·.born == e.born) = some e := by rw [← Array.find?_toList]; exact find_born e es.toList hn he
  have r0 : (Instr.entry (.pointer (some ⟨r, 0, none⟩))).run c.P w = .ok (.tuple #[e.key, e.val]) w := by
    simp only [Instr.entry, getObj, Sem.run_bind, Sem.run, hr, hb, Result.andThen, Array.back?_push, bne_self_eq_false, Bool.false_eq_true, if_false, hfind]
    rfl
  simp [execOp, hf.ev e1, r0, Oper.quietUpon]
end
end V
end Go.Proofs.Ythdmbdbncbdmiaa
