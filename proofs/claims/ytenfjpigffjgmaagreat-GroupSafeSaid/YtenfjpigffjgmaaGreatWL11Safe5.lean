/- The law GroupSafe of layer 11, for every input: whatever is done, nothing unsafe is seen. -/
import Derived.Test.YtenfjpigffjgmaaGreatWL11Safe4
set_option linter.unusedSimpArgs false
set_option linter.unusedVariables false
set_option maxRecDepth 100000
namespace Go.Proofs.YtenfjpigffjgmaaGreat
open Go.RowKit
open Go.Proofs.Tryz
namespace V
set_option maxHeartbeats 4000000
abbrev Ch := Int × Ent × Int
def yx (l : List Ch) : List Value := l.map fun q => .int .u64 q.1
def qN (l : List Ch) : List Value := (l.map fun q => Xq q.2.1).flatten
def Zz (l : List Ch) : List Value := l.map fun q => .int .u64 q.2.2
@[reducible] def chI (v : Value) (l : List Ch) : Asn := slc 36 1 v l.length (yx l)
@[reducible] def chA (v : Value) (l : List Ch) : Asn := slc 93 2 v l.length (qN l)
@[reducible] def chT (v : Value) (l : List Ch) : Asn := slc 36 1 v l.length (Zz l)
def YZ (l : List Ch) (i : Int) : Option Nat := l.findIdx? fun q => decide (q.1 = i)
def zv (l : List Ch) (i : Int) : Int := match YZ l i with | some k => k | none => -1
theorem QiW {l : List Ch} {i : Int} {k : Nat} {q : Ch} (hq : l[k]? = some q) (he : q.1 = i) (hn : ∀ p ∈ l.take k, ¬ p.1 = i) : YZ l i = some k := by
 unfold YZ
 rw [List.findIdx?_eq_some_iff_getElem]
 obtain ⟨hk, e⟩ := List.getElem?_eq_some_iff.1 hq
 refine ⟨hk, by rw [e]; simpa using he, fun j hj => ?_⟩
 have := hn (l[j]'(by omega)) (List.mem_iff_getElem?.2 ⟨j, by rw [List.getElem?_take, if_pos hj]; exact List.getElem?_eq_getElem _⟩)
 simpa using this
theorem Qkb {l : List Ch} {i : Int} (hn : ∀ p ∈ l, ¬ p.1 = i) : YZ l i = none := by
 unfold YZ
 rw [List.findIdx?_eq_none_iff]
 intro p hp
 simpa using hn p hp
theorem QbS {l : List Ch} {i : Int} {k : Nat} (h : YZ l i = some k) : ∃ q, l[k]? = some q ∧ q.1 = i := by
 unfold YZ at h
 rw [List.findIdx?_eq_some_iff_getElem] at h
 obtain ⟨hk, e, _⟩ := h
 exact ⟨l[k], List.getElem?_eq_getElem hk, by simpa using e⟩
theorem QeB {l : List Ch} {i : Int} {k : Nat} {q : Ch} (hq : l[k]? = some q) (h : ∀ p ∈ l.take k, ¬ p.1 = i) (he : ¬ q.1 = i) : ∀ p ∈ l.take (k + 1), ¬ p.1 = i := fun p hp => by
 rw [List.take_add_one, hq] at hp
 rcases List.mem_append.1 hp with hp | hp
 ·exact h p hp
 ·simp at hp; subst hp; exact he
theorem QgU {l : List Ch} {k : Nat} {q : Ch} (hq : l[k]? = some q) : nth (yx l) ((k : Int).toNat * 1) = some (.int .u64 q.1) := by rw [Int.toNat_natCast, Zr]; simp [yx, hq]
theorem Qgs {l : List Ch} {k : Nat} {q : Ch} (hq : l[k]? = some q) : nth (Zz l) ((k : Int).toNat * 1) = some (.int .u64 q.2.2) := by rw [Int.toNat_natCast, Zr]; simp [Zz, hq]
theorem Qnk {R : Hp} (vi va vt : Value) (l : List Ch) (hva : va.oneCell' = true) (hvt : vt.oneCell' = true) (i : Int) : QTri prog 61 [.agg ⟨[vi, va, vt]⟩, .int .u64 i] R [chI vi l] (.int .i64 (zv l i)) := by
 refine Tri.q2 ?_
 refine Qp func61 rfl ntmps61 rfl (fun σ F Q hret hend hpan => ?_)
 try simp only [cB]
 refine Zp (A := chI vi l) fd_ YV (fun hsa => ?_)
 obtain ⟨qa, ca, rfl, ha1, ha2, _⟩ := hsa
 unfold maxLen at ha2
 refine Qd fun K1 hK1 => Qc ?_
 refine QY (wn0 rfl) rfl rfl rfl (fun b2 => ?_)
 refine Ps (Qe (hK1 _ _ _ (Qd fun K2 hK2 => Qd fun K3 hK3 => Qc ?_)))
 refine Ps (Qe (hK3 _ _ _ (Qq ?_)))
 refine Ql (E' := (fun (x : Nat) => [(1, .int .u64 i), (2, .pointer (some ⟨b2, 0, none⟩)), (5, .int .i64 (x : Int))]) 0) (eC rfl (eC rfl (eC rfl eN))) ?_
 refine Xj (M := (fun (x : Nat) => blk b2 [.slice qa l.length ca, va, vt] 78 :: chI (.slice qa l.length ca) l :: F) 0) sb_ ?_
 refine QV (fun (x : Nat) => [(1, .int .u64 i), (2, .pointer (some ⟨b2, 0, none⟩)), (5, .int .i64 (x : Int))]) (fun (x : Nat) => R) (fun (x : Nat) => blk b2 [.slice qa l.length ca, va, vt] 78 :: chI (.slice qa l.length ca) l :: F) (fun (x : Nat) => x ≤ l.length ∧ ∀ p ∈ l.take x, ¬ p.1 = i) (fun (x : Nat) => l.length - x) 0 (⟨by simp, fun p hp => by simp at hp⟩) ?_
 rintro k ⟨hk, hn⟩
 try dsimp only
 refine Qd fun K4 hK4 => Qd fun K5 hK5 => Qc (Pm ?_)
 refine Pa (Ga underlying78 sizeOf75) ?_
 refine Pa (La o75) ?_
 refine Pa (QU underlying75 rfl) ?_
 refine Pa (QP rfl rfl) (Qe (hK5 _ _ _ ?_))
 refine Qm rfl (fun hc10 => ?_) (fun hc10 => ?_)
 try simp only [dx] at hc10
 refine Qj (hK4 _ _ _ (Qd fun K7 hK7 => Qq (Qd fun K8 hK8 => ?_)))
 have hk2 : k < l.length := by have hz := hc10; omega
 obtain ⟨q, hq⟩ : ∃ q, l[k]? = some q := ⟨_, List.getElem?_eq_getElem hk2⟩
 refine Qc ?_
 refine Pa (Ga underlying78 sizeOf75) ?_
 refine Pa (La o75) (Pm ?_)
 refine Pa ((Xg (sz := 1) (n := l.length) underlying75 sizeOf36 rfl rfl fd_ (by omega))) ?_
 refine Pa ((Xr o36 rfl fd_ (QgU hq))) (Pm ?_)
 refine Pa (QE rfl rfl) (Qe (hK8 _ _ _ ?_))
 refine Qm rfl (fun hc19 => ?_) (fun hc19 => ?_)
 try simp only [dx] at hc19
 refine Qd fun K10 hK10 => Qc (Pm (Ps (Qe (hK10 _ _ _ (Qi (hret _ _ _ ?_))))))
 refine Ea results61 (.cons (Qh rfl) .nil) [chI (.slice qa l.length ca) l] le_ ?_
 have hz := QiW hq (by simpa using hc19) hn
 unfold zv; rw [hz]; exact ⟨rfl, rfl⟩
 try simp only [dx] at hc19
 refine Qj (hK7 _ _ _ (Qc (Pm ?_)))
 refine Pa (Qw rfl rfl om_) (Ps (Qe ?_))
 refine QQ (q' := QC _ _ _ _ _ _ _) rfl ?_
 refine Qv (k + 1) (⟨by omega, QeB hq hn (by simpa using hc19)⟩) (by omega) (eC rfl (eC rfl (eC rfl eN))) rfl sb_
 try simp only [dx] at hc10
 refine QD (hK2 _ _ _ ?_)
 refine Ql eN ?_
 refine Qd fun K11 hK11 => Qc (Ps (Qe (hK11 _ _ _ (Qi (hret _ _ _ ?_)))))
 refine Ea results61 (.cons (Qh rfl) .nil) [chI (.slice qa l.length ca) l] le_ ?_
 have hz := Qkb (l := l) (i := i) (fun p hp => hn p (by rw [List.take_of_length_le (by have hz := hc10; omega)]; exact hp))
 unfold zv; rw [hz]; exact ⟨rfl, rfl⟩
def qH (l : List Ch) (i : Int) (e : Ent) (τ : Int) : List Ch := match YZ l i with
 | some k => match l[k]? with
  | some q => if τ < q.2.2 then l.set k (q.1, q.2.1, τ) else l
  | none => l
 | none => l ++ [(i, e, τ)]
theorem Ql5 {l : List Ch} {k : Nat} {q q' : Ch} (hq : l[k]? = some q) (h : q'.1 = q.1) : yx (l.set k q') = yx l := by
 unfold yx
 apply List.ext_getElem?
 intro j
 rw [List.getElem?_map, List.getElem?_map]
 by_cases hj : k = j
 ·subst hj
  rw [List.getElem?_set_self (List.getElem?_eq_some_iff.1 hq).1, hq]
  simp [h]
 ·rw [List.getElem?_set_ne hj]
theorem QfL {l : List Ch} {k : Nat} {q q' : Ch} (hq : l[k]? = some q) (h : q'.2.1 = q.2.1) : qN (l.set k q') = qN l := by
 unfold qN
 congr 1
 apply List.ext_getElem?
 intro j
 rw [List.getElem?_map, List.getElem?_map]
 by_cases hj : k = j
 ·subst hj
  rw [List.getElem?_set_self (List.getElem?_eq_some_iff.1 hq).1, hq]
  simp [h]
 ·rw [List.getElem?_set_ne hj]
theorem Qlh {l : List Ch} {k : Nat} (q' : Ch) : (Zz l).set k (.int .u64 q'.2.2) = Zz (l.set k q') := by
 unfold Zz
 rw [List.map_set]
theorem QfM {l : List Ch} {k : Nat} {q : Ch} (hq : l[k]? = some q) : ((qN l).drop ((k : Int).toNat * 2)).take 2 = Xq q.2.1 := by
 rw [Int.toNat_natCast]
 unfold qN
 have key : ∀ (l : List Ch) (k : Nat), l[k]? = some q → (((l.map fun q => Xq q.2.1).flatten).drop (k * 2)).take 2 = Xq q.2.1 := fun l => by
  induction l with
  | nil => intro k h; simp at h
  | cons a l ih =>
   intro k h
   match k, h with
   | 0, h =>
    have := Option.some.inj h
    subst this
    simp [Xq]
   | k + 1, h =>
    have := ih k (by simpa using h)
    rw [List.map_cons, List.flatten_cons, show (k + 1) * 2 = 2 + k * 2 by omega, ← List.drop_drop]
    simpa [Xq] using this
 exact key l k hq
theorem Qdv {l : List Ch} : ∀ u ∈ qN l, u.oneCell' = true := fun u hu => by
 obtain ⟨a, ha, hu⟩ := List.mem_flatten.1 hu
 obtain ⟨z, _, rfl⟩ := List.mem_map.1 ha
 simp [Xq] at hu
 rcases hu with rfl | rfl <;> rfl
theorem Ql6 {l : List Ch} : ∀ u ∈ yx l, u.oneCell' = true := fun u hu => by obtain ⟨z, _, rfl⟩ := List.mem_map.1 hu; rfl
theorem Qa5 {l : List Ch} : ∀ u ∈ Zz l, u.oneCell' = true := fun u hu => by obtain ⟨z, _, rfl⟩ := List.mem_map.1 hu; rfl
theorem Qli {l : List Ch} : (Zz l).length = l.length := by simp [Zz]
theorem QjL {l : List Ch} {k : Nat} {v : Value} : ZP (Zz l) ((k : Int).toNat * 1) v = (Zz l).set k v := by rw [Int.toNat_natCast, Nat.mul_one, ye]
theorem Qi9 {R : Hp} (vi va vt : Value) (l : List Ch) (i : Int) (e : Ent) (τ : Int) (hva : va.oneCell' = true) (hvi : vi.oneCell' = true) (hvt : vt.oneCell' = true) (hl : l.length ≤ 100000000) (hok : ∀ k q, YZ l i = some k → l[k]? = some q → q.2.1 = e) : Tri prog 41 [.agg ⟨[vi, va, vt]⟩, .int .u64 i, .agg ⟨Xq e⟩, .int .u64 τ] R [chI vi l, chA va l, chT vt l]
  (fun r R' L' => ∃ vi' va' vt', r = QF [.agg ⟨[vi', va', vt']⟩, .bool true] ∧ (vi'.oneCell' = true ∧ va'.oneCell' = true ∧ vt'.oneCell' = true) ∧ L' = [chI vi' (qH l i e τ), chA va' (qH l i e τ), chT vt' (qH l i e τ)]) := by
 have hone3 : ∀ (a b c : Value), a.oneCell' = true → b.oneCell' = true → c.oneCell' = true → ∀ u ∈ [a, b, c], u.oneCell' = true := fun a b c ha hb hc u hu => by
  simp only [List.mem_cons, List.not_mem_nil, or_false] at hu
  rcases hu with rfl | rfl | rfl <;> assumption
 refine Qp func41 rfl ntmps41 rfl (fun σ F Q hret hend hpan => ?_)
 try simp only [cB]
 refine Qd fun K1 hK1 => Qc ?_
 refine QY (wn0 rfl) rfl rfl rfl (fun b4 => ?_)
 refine QY (wn0 rfl) rfl rfl rfl (fun b6 => ?_)
 refine Qy (wn0 rfl) rfl zeroValue78 rfl (fun b8 => ?_)
 refine Ps (Qe (hK1 _ _ _ (Qd fun K2 hK2 => Qc ?_)))
 refine Pa ((Lb (vs := [vi, va, vt]) m78)) (Pm ?_)
 refine Pa (Ca call61 (Qnk vi va vt l hva hvt i)) (Ps (Qe (hK2 _ _ _ (Qd fun K3 hK3 => Qd fun K4 hK4 => Qc ?_))))
 refine Pm ?_
 refine Pa (Zf rfl rfl) (Qe (hK4 _ _ _ ?_))
 refine Qm rfl (fun hc15 => ?_) (fun hc15 => ?_)
 obtain ⟨k, hpk⟩ : ∃ k, YZ l i = some k := by cases hp : YZ l i with | some k => exact ⟨k, rfl⟩ | none => exfalso; have hz := hc15; unfold zv at hz; rw [hp] at hz; simp at hz
 obtain ⟨q, hq, hqi⟩ := QbS hpk
 have hqe := hok k q hpk hq
 have hk := (List.getElem?_eq_some_iff.1 hq).1
 have hpi : zv l i = (k : Int) := by unfold zv; rw [hpk]
 rw [hpi]
 refine Qd fun K6 hK6 => Qd fun K7 hK7 => ?_
 refine Xs (by kernel_rfl) (by kernel_rfl) ?_
 refine Qa (Ga underlying78 sizeOf76) ?_
 refine Qa (La o76) ?_
 refine Qa (Qg rfl) ?_
 refine Qa (Xg underlying76 sizeOf93 rfl rfl fd_ om_) ?_
 refine Qa ((jb m93 rfl fd_ (QfM hq) rfl (by omega))) ?_
 refine Qa (Lb m93) ?_
 refine Qa ((Yld.to (u := .bool false) (Qgj (by kernel_rfl) rfl rfl (fun w => Qg4 q.2.1 e w)) (by rw [hqe]; simp))) ?_
 refine Xc ?_
 refine hK7 _ _ _ (Qt rfl (Qj (hK6 _ _ _ (Qd fun K8 hK8 => Qd fun K9 hK9 => Qc (Pm ?_)))))
 refine Pa (Ga underlying78 sizeOf75) ?_
 refine Pa (La o75) (Pm ?_)
 refine Pa (Xg underlying75 sizeOf36 rfl rfl fd_ om_) ?_
 refine Pa ((Xr o36 rfl fd_ (Qgs hq))) ?_
 refine Pa (QP rfl rfl) (Qe (hK9 _ _ _ ?_))
 refine Ql (eL 3 rfl (eL 4 rfl (eL 8 rfl (eL 10 rfl (eL 30 rfl eN))))) ?_
 refine Qm rfl (fun hc30 => ?_) (fun hc30 => ?_)
 have hlt : τ < q.2.2 := by simpa using hc30
 have hkw : qH l i e τ = l.set k (q.1, q.2.1, τ) := by unfold qH; rw [hpk]; dsimp only; rw [hq]; dsimp only; rw [if_pos hlt]
 refine Qd fun K11 hK11 => Qc ?_
 refine Qu (sz := 1) (wn0 rfl) rfl underlying75 sizeOf36 zeroValue36 rfl rfl rfl (by decide) (by decide) (fun b31 => ?_)
 refine Pa (Ga underlying78 sizeOf75) ?_
 refine Pa (La o75) ?_
 refine QT (sz := 1) (by_ := 8) ⟨underlying75, _, _, rfl, rfl, rfl, rfl, rfl⟩ (wn0 rfl) rfl rfl rfl fd_ (Xy (xs := Zz l) underlying75 fd_ Qa5) rfl om_ (by simp only [maxLen]; omega) (fun v34 ho34 hh34 => ?_)
 rw [show 0 + l.length = l.length from Nat.zero_add _, List.nil_append]
 refine Pa (Ga underlying78 sizeOf75) ?_
 refine Sa o75 ?_
 refine Qe (hK11 _ _ _ (Qc ?_))
 refine Pa (Ga underlying78 sizeOf75) ?_
 refine Pa (La o75) (Pm (Pm ?_))
 refine Pa (Xg underlying75 sizeOf36 rfl rfl fd_ om_) ?_
 refine ZA (ys := (Zz l).set k (.int .u64 τ)) o36 (wn0 rfl) rfl rfl rfl fd_ (by rw [Qli]; omega) QjL (by omega) ?_
 refine Qe (hK8 _ _ _ (Qd fun K12 hK12 => Qc ?_))
 refine Pa (Lb m78) ?_
 refine Qr m78 rfl (wn0 rfl) rfl rfl (hone3 _ _ _ (by assumption) (by assumption) (by assumption)) fd_ (by exact Nat.le_refl 3) rfl ?_
 refine Ps (Qe (hK12 _ _ _ (Qi (hret _ _ _ ?_))))
 refine Ea results41 (.cons (QI m78 rfl fd_ rfl rfl) (.cons (Qh rfl) .nil)) [chI vi l, chA va l, slc 36 1 v34 l.length ((Zz l).set k (.int .u64 τ))] le_ ?_
 rw [hkw]; exact ⟨vi, va, v34, rfl, ⟨hvi, hva, by assumption⟩, by simp only [chI, chA, chT, List.length_set, Ql5 (q' := (q.1, q.2.1, τ)) hq rfl, QfL (q' := (q.1, q.2.1, τ)) hq rfl, ← Qlh]⟩
 have hlt : ¬ τ < q.2.2 := by simpa using hc30
 have hkw : qH l i e τ = l := by unfold qH; rw [hpk]; dsimp only; rw [hq]; dsimp only; rw [if_neg hlt]
 refine Qj (hK8 _ _ _ (Qd fun K13 hK13 => Qc ?_))
 refine Pa (Lb m78) ?_
 refine Qr m78 rfl (wn0 rfl) rfl rfl (hone3 _ _ _ (by assumption) (by assumption) (by assumption)) fd_ (by exact Nat.le_refl 3) rfl ?_
 refine Ps (Qe (hK13 _ _ _ (Qi (hret _ _ _ ?_))))
 refine Ea results41 (.cons (QI m78 rfl fd_ rfl rfl) (.cons (Qh rfl) .nil)) [chI vi l, chA va l, chT vt l] le_ ?_
 rw [hkw]; exact ⟨vi, va, vt, rfl, ⟨hvi, hva, hvt⟩, rfl⟩
 have hpn : YZ l i = none := by cases hp : YZ l i with | some k => exfalso; have hz := hc15; unfold zv at hz; rw [hp] at hz; simp at hz | none => rfl
 have hkw : qH l i e τ = l ++ [(i, e, τ)] := by unfold qH; rw [hpn]
 refine Qj (hK3 _ _ _ (Qd fun K14 hK14 => Qc ?_))
 refine Qu (sz := 1) (wn0 rfl) rfl underlying75 sizeOf36 zeroValue36 rfl rfl rfl (by decide) (by decide) (fun b42 => ?_)
 refine Pa (Ga underlying78 sizeOf75) ?_
 refine Pa (La o75) ?_
 refine QT (sz := 1) (by_ := 8) ⟨underlying75, _, _, rfl, rfl, rfl, rfl, rfl⟩ (wn0 rfl) rfl rfl rfl fd_ (Xy (xs := yx l) underlying75 fd_ Ql6) rfl om_ (by simp only [maxLen]; omega) (fun v45 ho45 hh45 => ?_)
 rw [show 0 + l.length = l.length from Nat.zero_add _, List.nil_append]
 refine Pm ?_
 refine Qu (sz := 1) (wn0 rfl) rfl underlying75 sizeOf36 zeroValue36 rfl rfl rfl (by decide) (by decide) (fun b47 => ?_)
 refine QT (sz := 1) (by_ := 8) ⟨underlying75, _, _, rfl, rfl, rfl, rfl, rfl⟩ (wn0 rfl) rfl rfl rfl fd_ (Xy (xs := [.int .u64 i]) underlying75 fd_ (by (first | (simp [Value.oneCell']; done) | (intro u hu; simp only [List.mem_cons, List.not_mem_nil, or_false] at hu; rcases hu with rfl | rfl | rfl | rfl <;> first | rfl | assumption)))) rfl om_ (by simp only [maxLen]; omega) (fun v48 ho48 hh48 => ?_)
 skip
 refine Pa (Ga underlying78 sizeOf75) ?_
 refine Sa o75 ?_
 refine Qe (hK14 _ _ _ (Qd fun K15 hK15 => ?_))
 refine Qdt (L := [blk b4 [v48, va, vt] 78, blk b6 (Xq e) 93]) [1, 2, 4] [0, 3, 5] [6, 7, 8] _ Qe9 sb_ (by kernel_rfl) (by kernel_rfl) (by kernel_rfl) rfl ?_
 refine Wa rfl (fun R1 hR1 G => (Ga underlying78 sizeOf76)) ?_
 refine Wa rfl (fun R1 hR1 G => (La o76)) ?_
 refine Wa rfl (fun R1 hR1 G => (Lb m93)) ?_
 refine Xd ?_
 refine Xa [0, 5] (by kernel_rfl) ⟨?_, ?_, trivial⟩
 refine QR rfl ?_
 try simp only [cC]
 refine Qu (sz := 2) (wn0 rfl) rfl underlying76 sizeOf93 zeroValue93 rfl rfl rfl (by decide) (by decide) (fun b50 => ?_)
 refine QS le_ sb_ ?_
 refine Xa [3, 5] (by kernel_rfl) ⟨?_, ?_, trivial⟩
 refine QR rfl ?_
 try simp only [cC]
 refine QT (sz := 2) (by_ := 24) ⟨underlying76, _, _, rfl, rfl, rfl, rfl, rfl⟩ (wn0 rfl) rfl rfl rfl fd_ (Xy (xs := qN l) underlying76 fd_ Qdv) rfl om_ (by simp only [maxLen]; omega) (fun v53 ho53 hh53 => ?_)
 rw [show 0 + l.length = l.length from Nat.zero_add _, List.nil_append]
 refine QS le_ sb_ ?_
 refine Xa [5] (by kernel_rfl) ⟨?_, trivial⟩
 refine QR rfl ?_
 try simp only [cC]
 refine Qu (sz := 2) (wn0 rfl) rfl underlying76 sizeOf93 zeroValue93 rfl rfl rfl (by decide) (by decide) (fun b55 => ?_)
 refine QS le_ sb_ ?_
 refine YE ?_
 try simp only [cC]
 refine QT (sz := 2) (by_ := 24) ⟨underlying76, _, _, rfl, rfl, rfl, rfl, rfl⟩ (wn0 rfl) rfl rfl rfl fd_ (Xy (xs := Xq e) underlying76 fd_ (by unfold Xq; (first | (simp [Value.oneCell']; done) | (intro u hu; simp only [List.mem_cons, List.not_mem_nil, or_false] at hu; rcases hu with rfl | rfl | rfl | rfl <;> first | rfl | assumption)))) rfl om_ (by simp only [maxLen]; omega) (fun v56 ho56 hh56 => ?_)
 skip
 refine Pa (Ga underlying78 sizeOf76) ?_
 refine Sa o76 ?_
 refine Qe (hK15 _ _ _ ?_)
 refine Ql (eL 3 rfl (eL 4 rfl (eL 8 rfl eN))) ?_
 refine Qd fun K16 hK16 => Qc ?_
 refine Qu (sz := 1) (wn0 rfl) rfl underlying75 sizeOf36 zeroValue36 rfl rfl rfl (by decide) (by decide) (fun b58 => ?_)
 refine Pa (Ga underlying78 sizeOf75) ?_
 refine Pa (La o75) ?_
 refine QT (sz := 1) (by_ := 8) ⟨underlying75, _, _, rfl, rfl, rfl, rfl, rfl⟩ (wn0 rfl) rfl rfl rfl fd_ (Xy (xs := Zz l) underlying75 fd_ Qa5) rfl om_ (by simp only [maxLen]; omega) (fun v61 ho61 hh61 => ?_)
 rw [show 0 + l.length = l.length from Nat.zero_add _, List.nil_append]
 refine Pm ?_
 refine Qu (sz := 1) (wn0 rfl) rfl underlying75 sizeOf36 zeroValue36 rfl rfl rfl (by decide) (by decide) (fun b63 => ?_)
 refine QT (sz := 1) (by_ := 8) ⟨underlying75, _, _, rfl, rfl, rfl, rfl, rfl⟩ (wn0 rfl) rfl rfl rfl fd_ (Xy (xs := [.int .u64 τ]) underlying75 fd_ (by (first | (simp [Value.oneCell']; done) | (intro u hu; simp only [List.mem_cons, List.not_mem_nil, or_false] at hu; rcases hu with rfl | rfl | rfl | rfl <;> first | rfl | assumption)))) rfl om_ (by simp only [maxLen]; omega) (fun v64 ho64 hh64 => ?_)
 skip
 refine Pa (Ga underlying78 sizeOf75) ?_
 refine Sa o75 ?_
 refine Qe (hK16 _ _ _ (Qd fun K17 hK17 => Qc ?_))
 refine Pa (Lb m78) ?_
 refine Qr m78 rfl (wn0 rfl) rfl rfl (hone3 _ _ _ (by assumption) (by assumption) (by assumption)) fd_ (by exact Nat.le_refl 3) rfl ?_
 refine Ps (Qe (hK17 _ _ _ (Qi (hret _ _ _ ?_))))
 refine Ea results41 (.cons (QI m78 rfl fd_ rfl rfl) (.cons (Qh rfl) .nil)) [slc 36 1 v48 (l.length + 1) (yx l ++ [.int .u64 i]), slc 93 2 v56 (l.length + 1) (qN l ++ Xq e), slc 36 1 v64 (l.length + 1) (Zz l ++ [.int .u64 τ])] le_ ?_
 rw [hkw]; exact ⟨v48, v56, v64, rfl, ⟨by assumption, by assumption, by assumption⟩, by simp [chI, chA, chT, yx, qN, Zz]⟩
 refine QR rfl ?_
 try simp only [cC]
 refine Qu (sz := 2) (wn0 rfl) rfl underlying76 sizeOf93 zeroValue93 rfl rfl rfl (by decide) (by decide) (fun b55 => ?_)
 refine QS le_ sb_ ?_
 refine Xa [3] (by kernel_rfl) ⟨?_, trivial⟩
 refine QR rfl ?_
 try simp only [cC]
 refine QT (sz := 2) (by_ := 24) ⟨underlying76, _, _, rfl, rfl, rfl, rfl, rfl⟩ (wn0 rfl) rfl rfl rfl fd_ (Xy (xs := qN l) underlying76 fd_ Qdv) rfl om_ (by simp only [maxLen]; omega) (fun v53 ho53 hh53 => ?_)
 rw [show 0 + l.length = l.length from Nat.zero_add _, List.nil_append]
 refine QS le_ sb_ ?_
 refine YE ?_
 try simp only [cC]
 refine QT (sz := 2) (by_ := 24) ⟨underlying76, _, _, rfl, rfl, rfl, rfl, rfl⟩ (wn0 rfl) rfl rfl rfl fd_ (Xy (xs := Xq e) underlying76 fd_ (by unfold Xq; (first | (simp [Value.oneCell']; done) | (intro u hu; simp only [List.mem_cons, List.not_mem_nil, or_false] at hu; rcases hu with rfl | rfl | rfl | rfl <;> first | rfl | assumption)))) rfl om_ (by simp only [maxLen]; omega) (fun v56 ho56 hh56 => ?_)
 skip
 refine Pa (Ga underlying78 sizeOf76) ?_
 refine Sa o76 ?_
 refine Qe (hK15 _ _ _ (Qd fun K18 hK18 => Qc ?_))
 refine Qu (sz := 1) (wn0 rfl) rfl underlying75 sizeOf36 zeroValue36 rfl rfl rfl (by decide) (by decide) (fun b58 => ?_)
 refine Pa (Ga underlying78 sizeOf75) ?_
 refine Pa (La o75) ?_
 refine QT (sz := 1) (by_ := 8) ⟨underlying75, _, _, rfl, rfl, rfl, rfl, rfl⟩ (wn0 rfl) rfl rfl rfl fd_ (Xy (xs := Zz l) underlying75 fd_ Qa5) rfl om_ (by simp only [maxLen]; omega) (fun v61 ho61 hh61 => ?_)
 rw [show 0 + l.length = l.length from Nat.zero_add _, List.nil_append]
 refine Pm ?_
 refine Qu (sz := 1) (wn0 rfl) rfl underlying75 sizeOf36 zeroValue36 rfl rfl rfl (by decide) (by decide) (fun b63 => ?_)
 refine QT (sz := 1) (by_ := 8) ⟨underlying75, _, _, rfl, rfl, rfl, rfl, rfl⟩ (wn0 rfl) rfl rfl rfl fd_ (Xy (xs := [.int .u64 τ]) underlying75 fd_ (by (first | (simp [Value.oneCell']; done) | (intro u hu; simp only [List.mem_cons, List.not_mem_nil, or_false] at hu; rcases hu with rfl | rfl | rfl | rfl <;> first | rfl | assumption)))) rfl om_ (by simp only [maxLen]; omega) (fun v64 ho64 hh64 => ?_)
 skip
 refine Pa (Ga underlying78 sizeOf75) ?_
 refine Sa o75 ?_
 refine Qe (hK18 _ _ _ (Qd fun K19 hK19 => Qc ?_))
 refine Pa (Lb m78) ?_
 refine Qr m78 rfl (wn0 rfl) rfl rfl (hone3 _ _ _ (by assumption) (by assumption) (by assumption)) fd_ (by exact Nat.le_refl 3) rfl ?_
 refine Ps (Qe (hK19 _ _ _ (Qi (hret _ _ _ ?_))))
 refine Ea results41 (.cons (QI m78 rfl fd_ rfl rfl) (.cons (Qh rfl) .nil)) [slc 36 1 v48 (l.length + 1) (yx l ++ [.int .u64 i]), slc 93 2 v56 (l.length + 1) (qN l ++ Xq e), slc 36 1 v64 (l.length + 1) (Zz l ++ [.int .u64 τ])] le_ ?_
 rw [hkw]; exact ⟨v48, v56, v64, rfl, ⟨by assumption, by assumption, by assumption⟩, by simp [chI, chA, chT, yx, qN, Zz]⟩
 refine QR rfl ?_
 try simp only [cC]
 refine Qu (sz := 2) (wn0 rfl) rfl underlying76 sizeOf93 zeroValue93 rfl rfl rfl (by decide) (by decide) (fun b55 => ?_)
 refine QS le_ sb_ ?_
 refine Xa [0] (by kernel_rfl) ⟨?_, trivial⟩
 refine QR rfl ?_
 try simp only [cC]
 refine Qu (sz := 2) (wn0 rfl) rfl underlying76 sizeOf93 zeroValue93 rfl rfl rfl (by decide) (by decide) (fun b50 => ?_)
 refine QS le_ sb_ ?_
 refine Xa [3] (by kernel_rfl) ⟨?_, trivial⟩
 refine QR rfl ?_
 try simp only [cC]
 refine QT (sz := 2) (by_ := 24) ⟨underlying76, _, _, rfl, rfl, rfl, rfl, rfl⟩ (wn0 rfl) rfl rfl rfl fd_ (Xy (xs := qN l) underlying76 fd_ Qdv) rfl om_ (by simp only [maxLen]; omega) (fun v53 ho53 hh53 => ?_)
 rw [show 0 + l.length = l.length from Nat.zero_add _, List.nil_append]
 refine QS le_ sb_ ?_
 refine YE ?_
 try simp only [cC]
 refine QT (sz := 2) (by_ := 24) ⟨underlying76, _, _, rfl, rfl, rfl, rfl, rfl⟩ (wn0 rfl) rfl rfl rfl fd_ (Xy (xs := Xq e) underlying76 fd_ (by unfold Xq; (first | (simp [Value.oneCell']; done) | (intro u hu; simp only [List.mem_cons, List.not_mem_nil, or_false] at hu; rcases hu with rfl | rfl | rfl | rfl <;> first | rfl | assumption)))) rfl om_ (by simp only [maxLen]; omega) (fun v56 ho56 hh56 => ?_)
 skip
 refine Pa (Ga underlying78 sizeOf76) ?_
 refine Sa o76 ?_
 refine Qe (hK15 _ _ _ (Qd fun K20 hK20 => Qc ?_))
 refine Qu (sz := 1) (wn0 rfl) rfl underlying75 sizeOf36 zeroValue36 rfl rfl rfl (by decide) (by decide) (fun b58 => ?_)
 refine Pa (Ga underlying78 sizeOf75) ?_
 refine Pa (La o75) ?_
 refine QT (sz := 1) (by_ := 8) ⟨underlying75, _, _, rfl, rfl, rfl, rfl, rfl⟩ (wn0 rfl) rfl rfl rfl fd_ (Xy (xs := Zz l) underlying75 fd_ Qa5) rfl om_ (by simp only [maxLen]; omega) (fun v61 ho61 hh61 => ?_)
 rw [show 0 + l.length = l.length from Nat.zero_add _, List.nil_append]
 refine Pm ?_
 refine Qu (sz := 1) (wn0 rfl) rfl underlying75 sizeOf36 zeroValue36 rfl rfl rfl (by decide) (by decide) (fun b63 => ?_)
 refine QT (sz := 1) (by_ := 8) ⟨underlying75, _, _, rfl, rfl, rfl, rfl, rfl⟩ (wn0 rfl) rfl rfl rfl fd_ (Xy (xs := [.int .u64 τ]) underlying75 fd_ (by (first | (simp [Value.oneCell']; done) | (intro u hu; simp only [List.mem_cons, List.not_mem_nil, or_false] at hu; rcases hu with rfl | rfl | rfl | rfl <;> first | rfl | assumption)))) rfl om_ (by simp only [maxLen]; omega) (fun v64 ho64 hh64 => ?_)
 skip
 refine Pa (Ga underlying78 sizeOf75) ?_
 refine Sa o75 ?_
 refine Qe (hK20 _ _ _ ?_)
 refine Ql (eL 4 rfl (eL 8 rfl eN)) ?_
 refine Qd fun K21 hK21 => Qc ?_
 refine Pa (Lb m78) ?_
 refine Qr m78 rfl (wn0 rfl) rfl rfl (hone3 _ _ _ (by assumption) (by assumption) (by assumption)) fd_ (by exact Nat.le_refl 3) rfl ?_
 refine Ps (Qe (hK21 _ _ _ (Qi (hret _ _ _ ?_))))
 refine Ea results41 (.cons (QI m78 rfl fd_ rfl rfl) (.cons (Qh rfl) .nil)) [slc 36 1 v48 (l.length + 1) (yx l ++ [.int .u64 i]), slc 93 2 v56 (l.length + 1) (qN l ++ Xq e), slc 36 1 v64 (l.length + 1) (Zz l ++ [.int .u64 τ])] le_ ?_
 rw [hkw]; exact ⟨v48, v56, v64, rfl, ⟨by assumption, by assumption, by assumption⟩, by simp [chI, chA, chT, yx, qN, Zz]⟩
structure WS where
 ld : Int → Option Int
 nld : Nat
 ch : List Ch
 lo : List Bs
structure WV where
 m : Nat
 vi : Value
 va : Value
 vt : Value
 vl : Value
def ldF (W : WS) : Int → Option Value := fun t => (W.ld t).map fun i => .int .i64 i
@[reducible] def wtB (b : Nat) (v : WV) : Asn := blk b [.map (some v.m), v.vi, v.va, v.vt, v.vl] 80
@[reducible] def wtM (v : WV) (W : WS) : Asn := ZM v.m .u64 (ldF W) W.nld
@[reducible] def wtL (b : Nat) (v : WV) (W : WS) : List Asn := [wtB b v, wtM v W, chI v.vi W.ch, chA v.va W.ch, chT v.vt W.ch, lsS v.vl W.lo]
structure WVk (v : WV) : Prop where
 vi : v.vi.oneCell' = true
 va : v.va.oneCell' = true
 vt : v.vt.oneCell' = true
 vl : v.vl.oneCell' = true
def yB (G : GS) (n : Nat) (ch : List Ch) : Prop := ∀ i m, i < n → G.ms[i]? = some m → m.dn = false → m.x.role = 2 → ∀ q ∈ ch, QO q.1 ∧ (q.1 ≤ m.x.g.base ∨ q.2.2 > m.x.g.term ∨ m.x.g.at q.1 = some q.2.1)
theorem Qif {R : Hp} (b : Nat) (v : WV) (W : WS) (w : GV) (G : GS) (n : Nat) (hn : n = G.ms.length) (hok : GOk R w G) (hw : GW G) (hc : yB G n W.ch) (hv : WVk v) : QTri prog 42 [.pointer (some ⟨b, 0, none⟩), .pointer (some ⟨w.g, 0, none⟩), .int .i64 (n : Int)] R [wtB b v, chI v.vi W.ch, chA v.va W.ch, chT v.vt W.ch, grA w G, grB w, grS w] (.bool true) := by
 have hn9 := hw.n
 have hent1 : ∀ (e : Ent), ∀ u ∈ Xq e, u.oneCell' = true := fun e => entE.one (R := R) (x := e) rfl
 refine Tri.q2 ?_
 refine Qp func42 rfl ntmps42 rfl (fun σ F Q hret hend hpan => ?_)
 try simp only [cB]
 refine Zp (A := chI v.vi W.ch) fd_ YV (fun hs1 => ?_)
 refine Zp (A := chA v.va W.ch) fd_ YV (fun hs2 => ?_)
 refine Zp (A := chT v.vt W.ch) fd_ YV (fun hs3 => ?_)
 obtain ⟨bM, vi, va, vt, vl⟩ := v
 dsimp only at hs1 hs2 hs3 ⊢
 obtain ⟨q1, c1, rfl, hl1, hl2, _⟩ := hs1
 obtain ⟨q2, c2, rfl, _, _, _⟩ := hs2
 obtain ⟨q3, c3, rfl, _, _, _⟩ := hs3
 unfold maxLen at hl2
 refine Qd fun K1 hK1 => Qc (Ps (Qe (hK1 _ _ _ (Qd fun K2 hK2 => Qd fun K3 hK3 => Qc ?_))))
 refine Pm (Pm (Qe (hK3 _ _ _ (Qq ?_))))
 refine Ql (E' := (fun (x : Nat) => [(0, .pointer (some ⟨b, 0, none⟩)), (1, .pointer (some ⟨w.g, 0, none⟩)), (16, .int .i64 (n : Int)), (17, .int .i64 (x : Int))]) 0) (eC rfl (eC rfl (eC rfl (eC rfl eN)))) ?_
 refine Xj (M := (fun (x : Nat) => wtB b ⟨bM, .slice q1 W.ch.length c1, .slice q2 W.ch.length c2, .slice q3 W.ch.length c3, vl⟩ :: chI (.slice q1 W.ch.length c1) W.ch :: chA (.slice q2 W.ch.length c2) W.ch :: chT (.slice q3 W.ch.length c3) W.ch :: grA w G :: grB w :: grS w :: F) 0) sb_ ?_
 refine QV (fun (x : Nat) => [(0, .pointer (some ⟨b, 0, none⟩)), (1, .pointer (some ⟨w.g, 0, none⟩)), (16, .int .i64 (n : Int)), (17, .int .i64 (x : Int))]) (fun (x : Nat) => R) (fun (x : Nat) => wtB b ⟨bM, .slice q1 W.ch.length c1, .slice q2 W.ch.length c2, .slice q3 W.ch.length c3, vl⟩ :: chI (.slice q1 W.ch.length c1) W.ch :: chA (.slice q2 W.ch.length c2) W.ch :: chT (.slice q3 W.ch.length c3) W.ch :: grA w G :: grB w :: grS w :: F) (fun (x : Nat) => x ≤ n) (fun (x : Nat) => n - x) 0 (by simp) ?_
 rintro i hi
 try dsimp only
 refine Qd fun K4 hK4 => Qc ?_
 refine Pa (QP rfl rfl) (Qe (hK4 _ _ _ (Qd fun K5 hK5 => ?_)))
 refine Qm rfl (fun hc18 => ?_) (fun hc18 => ?_)
 try simp only [dx] at hc18
 refine Qj (hK5 _ _ _ (Qd fun K7 hK7 => Qq (Qd fun K8 hK8 => ?_)))
 have hi2 : i < n := by have hz := hc18; omega
 obtain ⟨m0, hm0⟩ : ∃ m, G.ms[i]? = some m := ⟨_, List.getElem?_eq_getElem (by omega)⟩
 obtain ⟨c0, hc0, hnk, _⟩ := hok.at hm0
 have hcm := hc i m0 hi2 hm0
 refine Qc (Pm (Ps (Qe (hK8 _ _ _ (Qd fun K9 hK9 => Qc ?_)))))
 refine Pm (Pm ?_)
 refine Pa (Ca call22 (jD (w := w) hc0 hm0)) (Ps (Qe (hK9 _ _ _ (Qd fun K10 hK10 => Qd fun K11 hK11 => Qc ?_))))
 refine Pm ?_
 refine Pa (Ca call37 (QgX hc0 hm0)) (Pm ?_)
 refine QG 25 rfl (fun hg25 => ?_) (fun hg25 => ?_)
 try simp only [dx] at hg25
 refine Pk (Pk (Pk ?_))
 refine Pa (Qs rfl rfl) (Qe (hK11 _ _ _ (Qz rfl (QD (hK7 _ _ _ (Qc ?_))))))
 refine Pa (Qw rfl rfl om_) (Pm (Qe ?_))
 refine QQ (q' := QC _ _ _ _ _ _ _) rfl ?_
 refine Qv (i + 1) (by omega) (by omega) (eC rfl (eC rfl (eC rfl (eC rfl eN)))) rfl sb_
 try simp only [dx] at hg25
 refine Pb (Qg rfl) ?_
 refine Pb (Ca call38 (Qdl hc0 hm0)) ?_
 refine Pb (Yb rfl rfl) ?_
 refine Pa (Qo rfl rfl) (Qe (hK11 _ _ _ ?_))
 refine Ql (eL 0 rfl (eL 1 rfl (eL 8 rfl (eL 16 rfl (eL 17 rfl (eL 29 rfl eN)))))) ?_
 refine Qm rfl (fun hc29 => ?_) (fun hc29 => ?_)
 try simp only [dx] at hc29
 refine QD (hK7 _ _ _ (Qc ?_))
 refine Pa (Qw rfl rfl om_) (Pm (Qe ?_))
 refine QQ (q' := QC _ _ _ _ _ _ _) rfl ?_
 refine Qv (i + 1) (by omega) (by omega) (eC rfl (eC rfl (eC rfl (eC rfl eN)))) rfl sb_
 have hup : m0.dn = false := by (try simp at hg25); assumption
 have hro : m0.x.role = 2 := by have hz := hc29; simpa using hz
 have hcm2 := hcm hup hro
 have hgo : m0.x.g.ok := ((hw.ms m0 (List.mem_of_getElem? hm0)).up (by rw [hup]; decide)).g (by omega)
 refine Qj (hK10 _ _ _ (Qd fun K13 hK13 => Qc (Pm ?_)))
 refine Pa (Ca call23 (yS hc0 hm0)) ?_
 refine Pa (Ca call25 (QgZ hc0 hm0)) (Pm ?_)
 refine Pa (Qn rfl rfl) ?_
 refine Pa (Qn rfl rfl) ?_
 refine Pa (Qn rfl rfl) (Ps (Ps (Ps (Qe (hK13 _ _ _ (Qd fun K14 hK14 => Qc ?_))))))
 refine Pm ?_
 refine Pa (Qf rfl) ?_
 refine Pa (Ga underlying80 sizeOf78) ?_
 refine Pa (Ga underlying78 sizeOf75) ?_
 refine Pa (La o75) ?_
 refine Pa (QU underlying75 rfl) (Pm (Qe (hK14 _ _ _ ?_)))
 refine Ql (eL 0 rfl (eL 1 rfl (eL 8 rfl (eL 9 rfl (eL 16 rfl (eL 17 rfl (eL 41 rfl (eL 42 rfl (eL 43 rfl eN))))))))) ?_
 refine Qq ?_
 refine Ql (E' := (fun (y : Nat) => [(0, .pointer (some ⟨b, 0, none⟩)), (1, .pointer (some ⟨w.g, 0, none⟩)), (8, .pointer (some ⟨c0.b.x, 0, none⟩)), (9, .int .u64 m0.x.g.base), (16, .int .i64 (n : Int)), (17, .int .i64 (i : Int)), (41, .slice q1 W.ch.length c1), (42, .int .i64 (W.ch.length : Int)), (43, .int .i64 (y : Int))]) 0) (eC rfl (eC rfl (eC rfl (eC rfl (eC rfl (eC rfl (eC rfl (eC rfl (eC rfl eN))))))))) ?_
 refine Xj (M := (fun (y : Nat) => wtB b ⟨bM, .slice q1 W.ch.length c1, .slice q2 W.ch.length c2, .slice q3 W.ch.length c3, vl⟩ :: chI (.slice q1 W.ch.length c1) W.ch :: chA (.slice q2 W.ch.length c2) W.ch :: chT (.slice q3 W.ch.length c3) W.ch :: grA w G :: grB w :: grS w :: F) 0) sb_ ?_
 refine QV (fun (y : Nat) => [(0, .pointer (some ⟨b, 0, none⟩)), (1, .pointer (some ⟨w.g, 0, none⟩)), (8, .pointer (some ⟨c0.b.x, 0, none⟩)), (9, .int .u64 m0.x.g.base), (16, .int .i64 (n : Int)), (17, .int .i64 (i : Int)), (41, .slice q1 W.ch.length c1), (42, .int .i64 (W.ch.length : Int)), (43, .int .i64 (y : Int))]) (fun (y : Nat) => R) (fun (y : Nat) => wtB b ⟨bM, .slice q1 W.ch.length c1, .slice q2 W.ch.length c2, .slice q3 W.ch.length c3, vl⟩ :: chI (.slice q1 W.ch.length c1) W.ch :: chA (.slice q2 W.ch.length c2) W.ch :: chT (.slice q3 W.ch.length c3) W.ch :: grA w G :: grB w :: grS w :: F) (fun (y : Nat) => y ≤ W.ch.length) (fun (y : Nat) => W.ch.length - y) 0 (by simp) ?_
 rintro k hk
 try dsimp only
 refine Qd fun K15 hK15 => Qc ?_
 refine Pa (QP rfl rfl) (Qe (hK15 _ _ _ (Qd fun K16 hK16 => ?_)))
 refine Qm rfl (fun hc44 => ?_) (fun hc44 => ?_)
 try simp only [dx] at hc44
 refine Qj (hK16 _ _ _ (Qd fun K18 hK18 => Qq (Qd fun K19 hK19 => ?_)))
 have hk2 : k < W.ch.length := by have hz := hc44; omega
 obtain ⟨q, hq⟩ : ∃ q, W.ch[k]? = some q := ⟨_, List.getElem?_eq_getElem hk2⟩
 have hcq := hcm2 q (List.mem_of_getElem? hq)
 refine Qc (Pm ?_)
 refine Pa ((Xg (sz := 1) (n := W.ch.length) underlying75 sizeOf36 rfl rfl fd_ (by omega))) ?_
 refine Pa ((Xr o36 rfl fd_ (QgU hq))) (Ps (Ps (Qe (hK19 _ _ _ (Qd fun K20 hK20 => Qd fun K21 hK21 => ?_)))))
 refine Xs (by kernel_rfl) (by kernel_rfl) ?_
 refine Qa (Qg rfl) ?_
 refine Qa (Qg rfl) ?_
 refine Qa (yY rfl rfl) ?_
 refine Qa (Qg rfl) ?_
 refine Zc 51 rfl (fun hg51 => ?_) (fun hg51 => ?_)
 try simp only [dx] at hg51
 refine Qk ?_
 refine Qk ?_
 refine Qk ?_
 refine Qk ?_
 refine Qk ?_
 refine Qk ?_
 refine Qk ?_
 refine Qk ?_
 refine Qk ?_
 refine Qk ?_
 refine Qk ?_
 refine Qk ?_
 refine Qa (Qs rfl rfl) ?_
 refine Xc ?_
 refine hK21 _ _ _ ?_
 refine Ql (eL 0 rfl (eL 1 rfl (eL 8 rfl (eL 9 rfl (eL 12 rfl (eL 13 rfl (eL 16 rfl (eL 17 rfl (eL 41 rfl (eL 42 rfl (eL 43 rfl (eL 64 rfl eN)))))))))))) ?_
 refine Qz rfl (QD (hK18 _ _ _ (Qc ?_)))
 refine Pa (Qw rfl rfl om_) (Pm (Qe ?_))
 refine QQ (q' := QC _ _ _ _ _ _ _) rfl ?_
 refine Qv (k + 1) (by omega) (by omega) (eC rfl (eC rfl (eC rfl (eC rfl (eC rfl (eC rfl (eC rfl (eC rfl (eC rfl eN))))))))) rfl sb_
 try simp only [dx] at hg51
 refine Qb (Qg rfl) ?_
 refine Qb (Qf rfl) ?_
 refine Qb (Ga underlying80 sizeOf78) ?_
 refine Qb (Ga underlying78 sizeOf75) ?_
 refine Qb (La o75) ?_
 refine Qb (Qg rfl) ?_
 refine Qb ((Xg (sz := 1) (n := W.ch.length) underlying75 sizeOf36 rfl rfl fd_ (by omega))) ?_
 refine Qb ((Xr o36 rfl fd_ (Qgs hq))) ?_
 refine Qb (Qg rfl) ?_
 refine Qb (Ca call23 (yS hc0 hm0)) ?_
 refine Qb (Ca call24 (Qbk hc0 hm0)) ?_
 refine Qb (Xv rfl rfl) ?_
 refine Qa (Qo rfl rfl) ?_
 refine Xc ?_
 refine hK21 _ _ _ ?_
 refine Qm rfl (fun hc64 => ?_) (fun hc64 => ?_)
 try simp only [dx] at hc64
 refine QD (hK18 _ _ _ (Qc ?_))
 refine Pa (Qw rfl rfl om_) (Pm (Qe ?_))
 refine QQ (q' := QC _ _ _ _ _ _ _) rfl ?_
 refine Qv (k + 1) (by omega) (by omega) (eC rfl (eC rfl (eC rfl (eC rfl (eC rfl (eC rfl (eC rfl (eC rfl (eC rfl eN))))))))) rfl sb_
 have hat : m0.x.g.at q.1 = some q.2.1 := by have hz := hc64; (try simp at hz hg51); rcases hcq.2 with h | h | h; omega; omega; exact h
 refine Qj (hK20 _ _ _ (Qd fun K23 hK23 => Qc (Pm ?_)))
 refine Pa (Ca call23 (yS hc0 hm0)) (Pm ?_)
 refine Pa (Ca call40 ((Qk4 hc0 hm0 hnk hgo hcq.1).eq3 (v' := QF [.agg ⟨Xq q.2.1⟩, .bool true]) (by rw [hat]; rfl))) (Pm ?_)
 refine Pa (Qn rfl rfl) ?_
 refine Pa (Qn rfl rfl) ?_
 refine Qy (wn0 rfl) rfl zeroValue93 rfl (fun be => ?_)
 refine Sm (vs := Xq q.2.1) m93 (hent1 q.2.1) ?_
 refine Ps (Qe (hK23 _ _ _ ?_))
 refine Ql (eL 0 rfl (eL 1 rfl (eL 8 rfl (eL 9 rfl (eL 12 rfl (eL 14 rfl (eL 15 rfl (eL 16 rfl (eL 17 rfl (eL 41 rfl (eL 42 rfl (eL 43 rfl eN)))))))))))) ?_
 refine Qd fun K24 hK24 => ?_
 refine Xs (by kernel_rfl) (by kernel_rfl) ?_
 refine Qa (Qg rfl) ?_
 refine Qa (Xe rfl) ?_
 refine Qa (Qg rfl) ?_
 refine Qb (Lb m93) ?_
 refine Qb (Qg rfl) ?_
 refine Qb (Qf rfl) ?_
 refine Qb (Ga underlying80 sizeOf78) ?_
 refine Qb (Ga underlying78 sizeOf76) ?_
 refine Qb (La o76) ?_
 refine Qb (Qg rfl) ?_
 refine Qb (Xg underlying76 sizeOf93 rfl rfl fd_ om_) ?_
 refine Qb ((jb m93 rfl fd_ (QfM hq) rfl (by omega))) ?_
 refine Qb ((Yld.to (u := .bool false) (Qgj (by kernel_rfl) rfl rfl (fun w => Qg4 q.2.1 q.2.1 w)) (by simp))) ?_
 refine Qa (Qo rfl rfl) ?_
 refine Xc ?_
 refine hK24 _ _ _ (Qt rfl (Qj (hK18 _ _ _ (Qc ?_))))
 refine Pa (Qw rfl rfl om_) (Pm (Qe ?_))
 refine QQ (q' := QC _ _ _ _ _ _ _) rfl ?_
 refine Qv (k + 1) (by omega) (by omega) (eC rfl (eC rfl (eC rfl (eC rfl (eC rfl (eC rfl (eC rfl (eC rfl (eC rfl eN))))))))) rfl sb_
 try simp only [dx] at hc44
 refine QD (hK7 _ _ _ (Qc ?_))
 refine Pa (Qw rfl rfl om_) (Pm (Qe ?_))
 refine QQ (q' := QC _ _ _ _ _ _ _) rfl ?_
 refine Qv (i + 1) (by omega) (by omega) (eC rfl (eC rfl (eC rfl (eC rfl eN)))) rfl sb_
 try simp only [dx] at hc18
 refine QD (hK2 _ _ _ ?_)
 refine Ql eN ?_
 refine Qd fun K25 hK25 => Qc (Ps (Qe (hK25 _ _ _ (Qi (hret _ _ _ ?_)))))
 refine Ea results42 (.cons (Qh rfl) .nil) [wtB b ⟨bM, .slice q1 W.ch.length c1, .slice q2 W.ch.length c2, .slice q3 W.ch.length c3, vl⟩, chI (.slice q1 W.ch.length c1) W.ch, chA (.slice q2 W.ch.length c2) W.ch, chT (.slice q3 W.ch.length c3) W.ch, grA w G, grB w, grS w] le_ ?_
 exact ⟨rfl, rfl⟩
def Qeh (W : WS) (t i : Int) : WS := { W with ld := fun s => if s = t then some i else W.ld s, nld := if (W.ld t).isSome then W.nld else W.nld + 1 }
def ZY (W : WS) (i : Nat) (m : MS) : WS := if m.x.role = 2 then Qeh W m.x.g.term i else W
def Zv (ch : List Ch) (m : MS) : Nat → List Ch
 | 0 => ch
 | j + 1 => match m.x.g.at (m.x.g.base + 1 + j) with
  | some e => qH (Zv ch m j) (m.x.g.base + 1 + j) e m.x.g.term
  | none => Zv ch m j
def cmN (m : MS) : Nat := (m.x.commit - m.x.g.base).toNat
def qv (W : WS) (i : Nat) (m : MS) : WS := if m.dn = true then W else
 { ZY W i m with ch := Zv W.ch m (cmN m), lo := if m.l.length > W.lo.length then m.l else W.lo }
def Yi (G : GS) (W : WS) : Nat → WS
 | 0 => W
 | i + 1 => match G.ms[i]? with
  | some m => qv (Yi G W i) i m
  | none => Yi G W i
structure LookOK (W : WS) (i : Nat) (m : MS) : Prop where
 ld : m.x.role = 2 → W.ld m.x.g.term = none ∨ W.ld m.x.g.term = some (i : Int)
 bc : 0 ≤ m.x.g.base ∧ m.x.g.base ≤ m.x.commit ∧ m.x.commit < 1000000
 at_ : ∀ j, j < cmN m → ∃ e, m.x.g.at (m.x.g.base + 1 + j) = some e ∧ ∀ k q, YZ (Zv W.ch m j) (m.x.g.base + 1 + j) = some k → (Zv W.ch m j)[k]? = some q → q.2.1 = e
 len : ∀ j, j ≤ cmN m → (Zv W.ch m j).length ≤ 100000000
 lo : qK m.l W.lo = true ∧ W.lo.length ≤ 100000 ∧ m.l.length ≤ 100000
 ap : m.ap ≤ m.x.commit
theorem QgQ {W : WS} {t i : Int} : qM (ldF W) t (.int .i64 i) = ldF (Qeh W t i) := by
 funext s
 unfold qM ldF Qeh
 dsimp only
 split <;> rfl
theorem Qfm {W : WS} {t : Int} : ((ldF W) t).isSome = (W.ld t).isSome := by unfold ldF; cases W.ld t <;> rfl
theorem QcB {ch : List Ch} {m : MS} {j : Nat} {e : Ent} (h : m.x.g.at (m.x.g.base + 1 + j) = some e) : Zv ch m (j + 1) = qH (Zv ch m j) (m.x.g.base + 1 + j) e m.x.g.term := by
 show (match m.x.g.at (m.x.g.base + 1 + j) with | some e => _ | none => _) = _
 rw [h]
theorem Ql4 {W : WS} {t i : Int} (h : W.ld t = none ∨ W.ld t = some i) : ∃ (old : Int) (there : Bool), Value.tuple #[((ldF W) t).getD (.int .i64 0), .bool ((ldF W) t).isSome] = QF [.int .i64 old, .bool there] ∧ (there = true → old = i) := by
 unfold ldF
 rcases h with h | h
 ·rw [h]; exact ⟨0, false, rfl, fun h => by cases h⟩
 ·rw [h]; exact ⟨i, true, rfl, fun _ => rfl⟩
theorem YX {a b c : Value} (ha : a.oneCell' = true) (hb : b.oneCell' = true) (hc : c.oneCell' = true) : ∀ u ∈ [a, b, c], u.oneCell' = true := fun u hu => by
 simp only [List.mem_cons, List.not_mem_nil, or_false] at hu
 rcases hu with rfl | rfl | rfl <;> assumption
theorem Qnl {l : List Bs} : ∀ u ∈ bsV l, u.oneCell' = true := fun u hu => by obtain ⟨z, _, rfl⟩ := List.mem_map.1 hu; rfl
theorem Qlw {cx : Cx} {R : Hp} {L M : List Asn} {w : GV} {G : GS} {i : Nat} {c : MV} {m : MS} {tx e' : TypeId} (hk : cx.P.underlying tx = some (.slice e')) (f : Find (Yh (ZH w.cs G.ms)) L M) (hc : w.cs[i]? = some c) (hm : G.ms[i]? = some m) : Qao cx R L tx 1 c.vl m.l.length (bsV m.l) := fun w' hs =>
 Xy (e := 9) (n := m.l.length) (xs := bsV m.l) hk fd_ Qnl w' (Sat.split (A := gA (XZ c m)) (As := XZ c m) (fun _ k => k) (Sat.split (A := Yh (ZH w.cs G.ms)) (As := [gA (XZ c m), Yh ((ZH w.cs G.ms).eraseIdx i)]) (Qal (qG hc hm)) (hs.find f)))
theorem Qm6 {R : Hp} (b : Nat) (v : WV) (W : WS) (w : GV) (G : GS) (n : Nat) (hn : n = G.ms.length) (hok : GOk R w G) (hw : GW G) (hv : WVk v) (hl : ∀ i m, i < n → G.ms[i]? = some m → m.dn = false → LookOK (Yi G W i) i m) (hc : yB G n (Yi G W n).ch) : Tri prog 14 [.pointer (some ⟨b, 0, none⟩), .pointer (some ⟨w.g, 0, none⟩), .int .i64 (n : Int)] R (wtL b v W ++ grL w G)
  (fun r R' L' => r = .bool true ∧ R.le R' ∧ ∃ v', WVk v' ∧ L' = wtL b v' (Yi G W n) ++ grL w G) := by
 have hn9 := hw.n
 have hent1 : ∀ (e : Ent), ∀ u ∈ Xq e, u.oneCell' = true := fun e => entE.one (R := R) (x := e) rfl
 refine Qp func14 rfl ntmps14 rfl (fun σ F Q hret hend hpan => ?_)
 try simp only [cB]
 refine Qd fun K1 hK1 => Qc (Ps (Qe (hK1 _ _ _ (Qd fun K2 hK2 => Qd fun K3 hK3 => Qc ?_))))
 refine Pm (Pm (Qe (hK3 _ _ _ (Qq ?_))))
 refine Ql (E' := (fun (x : Nat × WV × Hp) => [(0, .pointer (some ⟨b, 0, none⟩)), (1, .pointer (some ⟨w.g, 0, none⟩)), (2, .int .i64 (n : Int)), (21, .int .i64 (n : Int)), (22, .int .i64 (x.1 : Int))]) (0, v, R)) (eC rfl (eC rfl (eC rfl (eC rfl (eC rfl eN))))) ?_
 refine Xj (M := (fun (x : Nat × WV × Hp) => wtL b x.2.1 (Yi G W x.1) ++ (grL w G ++ F)) (0, v, R)) sb_ ?_
 refine QV (fun (x : Nat × WV × Hp) => [(0, .pointer (some ⟨b, 0, none⟩)), (1, .pointer (some ⟨w.g, 0, none⟩)), (2, .int .i64 (n : Int)), (21, .int .i64 (n : Int)), (22, .int .i64 (x.1 : Int))]) (fun (x : Nat × WV × Hp) => x.2.2) (fun (x : Nat × WV × Hp) => wtL b x.2.1 (Yi G W x.1) ++ (grL w G ++ F)) (fun (x : Nat × WV × Hp) => x.1 ≤ n ∧ WVk x.2.1 ∧ R.le x.2.2) (fun (x : Nat × WV × Hp) => n - x.1) (0, v, R) (⟨by simp, hv, Hp.le_refl _⟩) ?_
 rintro ⟨i, v1, R1⟩ ⟨hi, hv1, hR1⟩
 try dsimp only
 dsimp only at hi hv1 hR1
 refine Qd fun K4 hK4 => Qc ?_
 refine Pa (QP rfl rfl) (Qe (hK4 _ _ _ (Qd fun K5 hK5 => ?_)))
 refine Qm rfl (fun hc23 => ?_) (fun hc23 => ?_)
 try simp only [dx] at hc23
 refine Qj (hK5 _ _ _ (Qd fun K7 hK7 => Qq (Qd fun K8 hK8 => ?_)))
 have hi2 : i < n := by have hz := hc23; omega
 obtain ⟨m0, hm0⟩ : ∃ m, G.ms[i]? = some m := ⟨_, List.getElem?_eq_getElem (by omega)⟩
 obtain ⟨c0, hc0, hnk, _⟩ := hok.at hm0
 have hlk := hl i m0 hi2 hm0
 have hls : Yi G W (i + 1) = qv (Yi G W i) i m0 := by show (match G.ms[i]? with | some m => _ | none => _) = _; rw [hm0]
 refine Qc (Pm (Ps (Qe (hK8 _ _ _ (Qd fun K9 hK9 => Qc ?_)))))
 refine Pm (Pm ?_)
 refine Pa (Ca call22 (jD (w := w) hc0 hm0)) (Ps (Qe (hK9 _ _ _ (Qd fun K10 hK10 => Qd fun K11 hK11 => Qc ?_))))
 refine Pm ?_
 refine Pa (Ca call37 (QgX hc0 hm0)) (Qe (hK11 _ _ _ ?_))
 refine Qm rfl (fun hc29 => ?_) (fun hc29 => ?_)
 have hdn : m0.dn = true := hc29
 have hls2 : Yi G W (i + 1) = Yi G W i := by rw [hls]; unfold qv; rw [if_pos hdn]
 rw [← hls2]
 refine QD (hK7 _ _ _ (Qc ?_))
 refine Pa (Qw rfl rfl om_) (Pm (Qe ?_))
 refine QQ (q' := QC _ _ _ _ _ _ _) rfl ?_
 refine Qv ((i + 1, v1, R1)) (⟨by dsimp only; omega, hv1, hR1⟩) (by dsimp only; omega) (eC rfl (eC rfl (eC rfl (eC rfl (eC rfl eN))))) rfl sb_
 have hup : m0.dn = false := hc29
 have hlo := hlk hup
 have hgo : m0.x.g.ok := ((hw.ms m0 (List.mem_of_getElem? hm0)).up (by rw [hup]; decide)).g (by omega)
 have hbc := hlo.bc
 have hll := hlo.lo.2
 obtain ⟨W0, hW0⟩ : ∃ W0, W0 = Yi G W i := ⟨_, rfl⟩
 rw [← hW0] at hlo hls ⊢
 refine Qj (hK10 _ _ _ (Qd fun K13 hK13 => Qc (Pm ?_)))
 refine Pa (Ca call23 (yS hc0 hm0)) ?_
 refine Pa (Ca call24 (Qbk hc0 hm0)) (Ps (Qe (hK13 _ _ _ ?_)))
 refine Ql (eL 0 rfl (eL 1 rfl (eL 2 rfl (eL 7 rfl (eL 8 rfl (eL 9 rfl (eL 21 rfl (eL 22 rfl eN)))))))) ?_
 refine Qd fun K14 hK14 => ?_
 have hJ12 : ∀ (z : (Int → Option Value) × Nat), z.1 = ldF (ZY W0 i m0) ∧ z.2 = (ZY W0 i m0).nld → EJ ⟨prog, 137, σ⟩ K14 [(0, .pointer (some ⟨b, 0, none⟩)), (1, .pointer (some ⟨w.g, 0, none⟩)), (2, .int .i64 (n : Int)), (7, .int .i64 (i : Int)), (8, .pointer (some ⟨c0.b.x, 0, none⟩)), (9, .int .u64 m0.x.g.term), (21, .int .i64 (n : Int)), (22, .int .i64 (i : Int))] R1 (wtB b v1 :: ZM v1.m .u64 z.1 z.2 :: chI v1.vi W0.ch :: chA v1.va W0.ch :: chT v1.vt W0.ch :: lsS v1.vl W0.lo :: (grL w G ++ F)) := by
  rintro ⟨f1, k1⟩ ⟨hz1, hz2⟩
  try dsimp only
  dsimp only at hz1 hz2
  refine hK14 _ _ _ (Qd fun K15 hK15 => ?_)
  have hls3 : Yi G W (i + 1) = { ZY W0 i m0 with ch := Zv W0.ch m0 (cmN m0), lo := if m0.l.length > W0.lo.length then m0.l else W0.lo } := by rw [hls]; unfold qv; rw [if_neg (by rw [hup]; decide)]
  have hld3 : ldF (Yi G W (i + 1)) = f1 := by rw [hz1, hls3]; rfl
  have hnl3 : (Yi G W (i + 1)).nld = k1 := by rw [hz2, hls3]
  have hch3 : (Yi G W (i + 1)).ch = Zv W0.ch m0 (cmN m0) := by rw [hls3]
  have hlo3 : (Yi G W (i + 1)).lo = if m0.l.length > W0.lo.length then m0.l else W0.lo := by rw [hls3]
  obtain ⟨W9, hW9⟩ : ∃ W9, W9 = Yi G W (i + 1) := ⟨_, rfl⟩
  rw [← hW9] at hld3 hnl3 hch3 hlo3
  rw [← hld3, ← hnl3]
  obtain ⟨bM, vi0, va0, vt0, vl0⟩ := v1
  have hcN : ((cmN m0 : Nat) : Int) = m0.x.commit - m0.x.g.base := by unfold cmN; omega
  refine Qc (Pm ?_)
  refine Pa (Ca call23 (yS hc0 hm0)) ?_
  refine Pa (Ca call25 (QgZ hc0 hm0)) (Pm ?_)
  refine Pa (Qn rfl rfl) ?_
  refine Pa (Qn rfl rfl) ?_
  refine Pa (Qn rfl rfl) (Ps (Ps (Ps (Qe (hK15 _ _ _ (Qd fun K16 hK16 => Qd fun K17 hK17 => Qc ?_))))))
  refine Pm ?_
  refine Pa ((Yld.to (u := .int .u64 (m0.x.g.base + 1 + ((0 : Nat) : Int))) (XR rfl rfl (by omega)) (by simp))) ?_
  refine Ps (Qe (hK17 _ _ _ (Qq ?_)))
  refine Ql (E' := (fun (y : Nat × (Value × Value × Value) × Hp) => [(0, .pointer (some ⟨b, 0, none⟩)), (1, .pointer (some ⟨w.g, 0, none⟩)), (2, .int .i64 (n : Int)), (7, .int .i64 (i : Int)), (8, .pointer (some ⟨c0.b.x, 0, none⟩)), (9, .int .u64 m0.x.g.term), (15, .int .u64 (m0.x.g.base + 1 + (y.1 : Int))), (21, .int .i64 (n : Int)), (22, .int .i64 (i : Int))]) (0, (vi0, va0, vt0), R1)) (eC rfl (eC rfl (eC rfl (eC rfl (eC rfl (eC rfl (eC rfl (eC rfl (eC rfl eN))))))))) ?_
  refine Xj (M := (fun (y : Nat × (Value × Value × Value) × Hp) => wtB b ⟨bM, y.2.1.1, y.2.1.2.1, y.2.1.2.2, vl0⟩ :: ZM bM .u64 (ldF W9) W9.nld :: chI y.2.1.1 (Zv W0.ch m0 y.1) :: chA y.2.1.2.1 (Zv W0.ch m0 y.1) :: chT y.2.1.2.2 (Zv W0.ch m0 y.1) :: lsS vl0 W0.lo :: (grL w G ++ F)) (0, (vi0, va0, vt0), R1)) sb_ ?_
  refine QV (fun (y : Nat × (Value × Value × Value) × Hp) => [(0, .pointer (some ⟨b, 0, none⟩)), (1, .pointer (some ⟨w.g, 0, none⟩)), (2, .int .i64 (n : Int)), (7, .int .i64 (i : Int)), (8, .pointer (some ⟨c0.b.x, 0, none⟩)), (9, .int .u64 m0.x.g.term), (15, .int .u64 (m0.x.g.base + 1 + (y.1 : Int))), (21, .int .i64 (n : Int)), (22, .int .i64 (i : Int))]) (fun (y : Nat × (Value × Value × Value) × Hp) => y.2.2) (fun (y : Nat × (Value × Value × Value) × Hp) => wtB b ⟨bM, y.2.1.1, y.2.1.2.1, y.2.1.2.2, vl0⟩ :: ZM bM .u64 (ldF W9) W9.nld :: chI y.2.1.1 (Zv W0.ch m0 y.1) :: chA y.2.1.2.1 (Zv W0.ch m0 y.1) :: chT y.2.1.2.2 (Zv W0.ch m0 y.1) :: lsS vl0 W0.lo :: (grL w G ++ F)) (fun (y : Nat × (Value × Value × Value) × Hp) => y.1 ≤ cmN m0 ∧ (y.2.1.1.oneCell' = true ∧ y.2.1.2.1.oneCell' = true ∧ y.2.1.2.2.oneCell' = true) ∧ R1.le y.2.2) (fun (y : Nat × (Value × Value × Value) × Hp) => cmN m0 - y.1) (0, (vi0, va0, vt0), R1) (⟨by simp, ⟨hv1.vi, hv1.va, hv1.vt⟩, Hp.le_refl _⟩) ?_
  rintro ⟨j, ⟨vi, va, vt⟩, R2⟩ ⟨hj, ⟨h1, h2, h3⟩, hR2⟩
  try dsimp only
  dsimp only at hj h1 h2 h3 hR2
  refine Qd fun K18 hK18 => Qd fun K19 hK19 => Qc (Pm (Pm ?_))
  refine Pa (Ca call39 (Qd0 hc0 hm0)) ?_
  refine Pa (yY rfl rfl) (Qe (hK19 _ _ _ ?_))
  refine Qm rfl (fun hc69 => ?_) (fun hc69 => ?_)
  try simp only [dx] at hc69
  refine Qj (hK18 _ _ _ (Qd fun K21 hK21 => Qq (Qd fun K22 hK22 => ?_)))
  have hj2 : j < cmN m0 := by have hz := hc69; omega
  obtain ⟨e, hat, hkn⟩ := hlo.at_ j hj2
  have hkl := hlo.len j (by omega)
  have hks := QcB (ch := W0.ch) hat
  refine Qc (Pm ?_)
  refine Pa (Ca call23 (yS hc0 hm0)) (Pm ?_)
  refine Pa (Ca call40 ((Qk4 hc0 hm0 (hnk.mono (Hp.le_trans hR1 hR2)) hgo (show QO (m0.x.g.base + 1 + (j : Int)) by unfold QO; omega)).eq3 (v' := QF [.agg ⟨Xq e⟩, .bool true]) (by rw [hat]; rfl))) ?_
  refine Pm ?_
  refine Pa (Qn rfl rfl) ?_
  refine Pa (Qn rfl rfl) ?_
  refine Qy (wn0 rfl) rfl zeroValue93 rfl (fun be => ?_)
  refine Sm (vs := Xq e) m93 (hent1 e) ?_
  refine Ps (Qe (hK22 _ _ _ ?_))
  refine Ql (eL 0 rfl (eL 1 rfl (eL 2 rfl (eL 7 rfl (eL 8 rfl (eL 9 rfl (eL 15 rfl (eL 16 rfl (eL 17 rfl (eL 21 rfl (eL 22 rfl eN))))))))))) ?_
  refine Qd fun K23 hK23 => ?_
  refine Qdt (L := [wtB b ⟨bM, vi, va, vt, vl0⟩, blk be (Xq e) 93]) [0, 1, 2, 3, 4, 5, 6] [7, 8, 9, 10, 11, 12] [13] _ Qe9 sb_ (by kernel_rfl) (by kernel_rfl) (by kernel_rfl) rfl ?_
  refine Wa rfl (fun R1 hR1 G => (Qg rfl)) ?_
  refine Wa rfl (fun R1 hR1 G => (Qf rfl)) ?_
  refine Wa rfl (fun R1 hR1 G => (Ga underlying80 sizeOf78)) ?_
  refine Wa rfl (fun R1 hR1 G => (Lb m78)) ?_
  refine Wa rfl (fun R1 hR1 G => (Qg rfl)) ?_
  refine Wa rfl (fun R1 hR1 G => (Lb m93)) ?_
  refine Wa rfl (fun R1 hR1 G => (Qg rfl)) ?_
  refine Xd ?_
  refine Xa [7, 11] (by kernel_rfl) ⟨?_, ?_, trivial⟩
  refine QR rfl ?_
  try simp only [cC]
  refine Ra call41 (Qi9 vi va vt (Zv W0.ch m0 j) (m0.x.g.base + 1 + j) e m0.x.g.term h2 h1 h3 hkl hkn) ?_
  rintro r R3 L' hR3 ⟨vi', va', vt', rfl, ⟨h1', h2', h3'⟩, rfl⟩
  rw [← hks]
  try simp only [cB]
  refine QS le_ sb_ ?_
  refine Xa [8, 11] (by kernel_rfl) ⟨?_, ?_, trivial⟩
  refine QR rfl ?_
  try simp only [cC]
  refine Pm ?_
  refine QS le_ sb_ ?_
  refine Xa [9, 10, 11] (by kernel_rfl) ⟨?_, ?_, ?_, trivial⟩
  refine QR rfl ?_
  try simp only [cC]
  refine Pa (Qn rfl rfl) ?_
  refine QS le_ sb_ ?_
  refine Xa [10, 11] (by kernel_rfl) ⟨?_, ?_, trivial⟩
  refine QR rfl ?_
  try simp only [cC]
  refine Pa (Qn rfl rfl) ?_
  refine QS le_ sb_ ?_
  refine Xa [11] (by kernel_rfl) ⟨?_, trivial⟩
  refine QR rfl ?_
  try simp only [cC]
  refine Qy (wn0 rfl) rfl zeroValue78 rfl (fun b18 => ?_)
  refine QS le_ sb_ ?_
  refine Xa [12] (by kernel_rfl) ⟨?_, trivial⟩
  refine QR rfl ?_
  try simp only [cC]
  refine Qr m78 rfl (wn0 rfl) rfl rfl (YX h1' h2' h3') fd_ (by exact Nat.le_refl 3) rfl ?_
  refine QS le_ sb_ ?_
  refine YE ?_
  try simp only [cC]
  refine Ps (Qe (hK23 _ _ _ (Qd fun K24 hK24 => Qd fun K25 hK25 => Qc ?_)))
  refine Pm ?_
  refine Pa (Xe rfl) (Pm ?_)
  refine Pb (Qg rfl) ?_
  refine Pb (Xe rfl) ?_
  refine Pa (Qo rfl rfl) (Qe (hK25 _ _ _ (Qt rfl (Qj (hK24 _ _ _ (Qc (Pm ?_)))))))
  refine Pa (Lb m78) ?_
  refine Pa (Qf rfl) ?_
  refine Pa (Ga underlying80 sizeOf78) ?_
  refine Qr m78 rfl (wn0 rfl) rfl rfl (YX h1' h2' h3') fd_ (Nat.le_of_ble_eq_true rfl) rfl ?_
  refine Qe (hK21 _ _ _ ?_)
  refine Ql (eL 0 rfl (eL 1 rfl (eL 2 rfl (eL 7 rfl (eL 8 rfl (eL 9 rfl (eL 15 rfl (eL 21 rfl (eL 22 rfl eN))))))))) ?_
  refine Qc (Pm ?_)
  refine Pa ((Yld.to (u := .int .u64 (m0.x.g.base + 1 + ((j + 1 : Nat) : Int))) (XR rfl rfl (by omega)) (by congr 1; omega))) ?_
  refine Ps (Qe ?_)
  refine QQ (q' := QC _ _ _ _ _ _ _) rfl ?_
  refine Qv ((j + 1, (vi', va', vt'), R3)) (⟨by dsimp only; omega, ⟨h1', h2', h3'⟩, Hp.le_trans hR2 hR3⟩) (by dsimp only; omega) (eC rfl (eC rfl (eC rfl (eC rfl (eC rfl (eC rfl (eC rfl (eC rfl (eC rfl eN))))))))) rfl sb_
  refine QR rfl ?_
  try simp only [cC]
  refine Qy (wn0 rfl) rfl zeroValue78 rfl (fun b18 => ?_)
  refine QS le_ sb_ ?_
  refine Xa [10, 12] (by kernel_rfl) ⟨?_, ?_, trivial⟩
  refine QR rfl ?_
  try simp only [cC]
  refine Pa (Qn rfl rfl) ?_
  refine QS le_ sb_ ?_
  refine Xa [12] (by kernel_rfl) ⟨?_, trivial⟩
  refine QR rfl ?_
  try simp only [cC]
  refine Qr m78 rfl (wn0 rfl) rfl rfl (YX h1' h2' h3') fd_ (by exact Nat.le_refl 3) rfl ?_
  refine QS le_ sb_ ?_
  refine YE ?_
  try simp only [cC]
  refine Ps (Qe (hK23 _ _ _ (Qd fun K26 hK26 => Qd fun K27 hK27 => Qc ?_)))
  refine Pm ?_
  refine Pa (Xe rfl) (Pm ?_)
  refine Pb (Qg rfl) ?_
  refine Pb (Xe rfl) ?_
  refine Pa (Qo rfl rfl) (Qe (hK27 _ _ _ (Qt rfl (Qj (hK26 _ _ _ (Qc (Pm ?_)))))))
  refine Pa (Lb m78) ?_
  refine Pa (Qf rfl) ?_
  refine Pa (Ga underlying80 sizeOf78) ?_
  refine Qr m78 rfl (wn0 rfl) rfl rfl (YX h1' h2' h3') fd_ (Nat.le_of_ble_eq_true rfl) rfl ?_
  refine Qe (hK21 _ _ _ (Qc (Pm ?_)))
  refine Pa ((Yld.to (u := .int .u64 (m0.x.g.base + 1 + ((j + 1 : Nat) : Int))) (XR rfl rfl (by omega)) (by congr 1; omega))) ?_
  refine Ps (Qe ?_)
  refine QQ (q' := QC _ _ _ _ _ _ _) rfl ?_
  refine Qv ((j + 1, (vi', va', vt'), R3)) (⟨by dsimp only; omega, ⟨h1', h2', h3'⟩, Hp.le_trans hR2 hR3⟩) (by dsimp only; omega) (eC rfl (eC rfl (eC rfl (eC rfl (eC rfl (eC rfl (eC rfl (eC rfl (eC rfl eN))))))))) rfl sb_
  refine QR rfl ?_
  try simp only [cC]
  refine Qr m78 rfl (wn0 rfl) rfl rfl (YX h1' h2' h3') fd_ (by exact Nat.le_refl 3) rfl ?_
  refine QS le_ sb_ ?_
  refine Xa [10] (by kernel_rfl) ⟨?_, trivial⟩
  refine QR rfl ?_
  try simp only [cC]
  refine Pa (Qn rfl rfl) ?_
  refine QS le_ sb_ ?_
  refine YE ?_
  try simp only [cC]
  refine Ps (Qe (hK23 _ _ _ ?_))
  refine Ql (eL 0 rfl (eL 1 rfl (eL 2 rfl (eL 7 rfl (eL 8 rfl (eL 9 rfl (eL 15 rfl (eL 17 rfl (eL 18 rfl (eL 19 rfl (eL 21 rfl (eL 22 rfl eN)))))))))))) ?_
  refine Qd fun K28 hK28 => Qd fun K29 hK29 => Qc (Pm ?_)
  refine Pa (Xe rfl) (Pm ?_)
  refine Pb (Qg rfl) ?_
  refine Pb (Xe rfl) ?_
  refine Pa (Qo rfl rfl) (Qe (hK29 _ _ _ (Qt rfl (Qj (hK28 _ _ _ (Qc (Pm ?_)))))))
  refine Pa (Lb m78) ?_
  refine Pa (Qf rfl) ?_
  refine Pa (Ga underlying80 sizeOf78) ?_
  refine Qr m78 rfl (wn0 rfl) rfl rfl (YX h1' h2' h3') fd_ (Nat.le_of_ble_eq_true rfl) rfl ?_
  refine Qe (hK21 _ _ _ (Qc (Pm ?_)))
  refine Pa ((Yld.to (u := .int .u64 (m0.x.g.base + 1 + ((j + 1 : Nat) : Int))) (XR rfl rfl (by omega)) (by congr 1; omega))) ?_
  refine Ps (Qe ?_)
  refine QQ (q' := QC _ _ _ _ _ _ _) rfl ?_
  refine Qv ((j + 1, (vi', va', vt'), R3)) (⟨by dsimp only; omega, ⟨h1', h2', h3'⟩, Hp.le_trans hR2 hR3⟩) (by dsimp only; omega) (eC rfl (eC rfl (eC rfl (eC rfl (eC rfl (eC rfl (eC rfl (eC rfl (eC rfl eN))))))))) rfl sb_
  refine QR rfl ?_
  try simp only [cC]
  refine Pa (Qn rfl rfl) ?_
  refine QS le_ sb_ ?_
  refine Xa [9, 11] (by kernel_rfl) ⟨?_, ?_, trivial⟩
  refine QR rfl ?_
  try simp only [cC]
  refine Pa (Qn rfl rfl) ?_
  refine QS le_ sb_ ?_
  refine Xa [11] (by kernel_rfl) ⟨?_, trivial⟩
  refine QR rfl ?_
  try simp only [cC]
  refine Qy (wn0 rfl) rfl zeroValue78 rfl (fun b18 => ?_)
  refine QS le_ sb_ ?_
  refine Xa [12] (by kernel_rfl) ⟨?_, trivial⟩
  refine QR rfl ?_
  try simp only [cC]
  refine Qr m78 rfl (wn0 rfl) rfl rfl (YX h1' h2' h3') fd_ (by exact Nat.le_refl 3) rfl ?_
  refine QS le_ sb_ ?_
  refine YE ?_
  try simp only [cC]
  refine Ps (Qe (hK23 _ _ _ (Qd fun K30 hK30 => Qd fun K31 hK31 => Qc ?_)))
  refine Pm ?_
  refine Pa (Xe rfl) (Pm ?_)
  refine Pb (Qg rfl) ?_
  refine Pb (Xe rfl) ?_
  refine Pa (Qo rfl rfl) (Qe (hK31 _ _ _ ?_))
  refine Ql (eL 0 rfl (eL 1 rfl (eL 2 rfl (eL 7 rfl (eL 8 rfl (eL 9 rfl (eL 15 rfl (eL 18 rfl (eL 21 rfl (eL 22 rfl (eL 95 rfl eN))))))))))) ?_
  refine Qt rfl (Qj (hK30 _ _ _ (Qc (Pm ?_))))
  refine Pa (Lb m78) ?_
  refine Pa (Qf rfl) ?_
  refine Pa (Ga underlying80 sizeOf78) ?_
  refine Qr m78 rfl (wn0 rfl) rfl rfl (YX h1' h2' h3') fd_ (Nat.le_of_ble_eq_true rfl) rfl ?_
  refine Qe (hK21 _ _ _ (Qc (Pm ?_)))
  refine Pa ((Yld.to (u := .int .u64 (m0.x.g.base + 1 + ((j + 1 : Nat) : Int))) (XR rfl rfl (by omega)) (by congr 1; omega))) ?_
  refine Ps (Qe ?_)
  refine QQ (q' := QC _ _ _ _ _ _ _) rfl ?_
  refine Qv ((j + 1, (vi', va', vt'), R3)) (⟨by dsimp only; omega, ⟨h1', h2', h3'⟩, Hp.le_trans hR2 hR3⟩) (by dsimp only; omega) (eC rfl (eC rfl (eC rfl (eC rfl (eC rfl (eC rfl (eC rfl (eC rfl (eC rfl eN))))))))) rfl sb_
  refine QR rfl ?_
  try simp only [cC]
  refine Qy (wn0 rfl) rfl zeroValue78 rfl (fun b18 => ?_)
  refine QS le_ sb_ ?_
  refine Xa [9] (by kernel_rfl) ⟨?_, trivial⟩
  refine QR rfl ?_
  try simp only [cC]
  refine Pa (Qn rfl rfl) ?_
  refine QS le_ sb_ ?_
  refine Xa [12] (by kernel_rfl) ⟨?_, trivial⟩
  refine QR rfl ?_
  try simp only [cC]
  refine Qr m78 rfl (wn0 rfl) rfl rfl (YX h1' h2' h3') fd_ (by exact Nat.le_refl 3) rfl ?_
  refine QS le_ sb_ ?_
  refine YE ?_
  try simp only [cC]
  refine Ps (Qe (hK23 _ _ _ (Qd fun K32 hK32 => Qd fun K33 hK33 => Qc ?_)))
  refine Pm ?_
  refine Pa (Xe rfl) (Pm ?_)
  refine Pb (Qg rfl) ?_
  refine Pb (Xe rfl) ?_
  refine Pa (Qo rfl rfl) (Qe (hK33 _ _ _ (Qt rfl (Qj (hK32 _ _ _ (Qc (Pm ?_)))))))
  refine Pa (Lb m78) ?_
  refine Pa (Qf rfl) ?_
  refine Pa (Ga underlying80 sizeOf78) ?_
  refine Qr m78 rfl (wn0 rfl) rfl rfl (YX h1' h2' h3') fd_ (Nat.le_of_ble_eq_true rfl) rfl ?_
  refine Qe (hK21 _ _ _ ?_)
  refine Ql (eL 0 rfl (eL 1 rfl (eL 2 rfl (eL 7 rfl (eL 8 rfl (eL 9 rfl (eL 15 rfl (eL 21 rfl (eL 22 rfl eN))))))))) ?_
  refine Qc (Pm ?_)
  refine Pa ((Yld.to (u := .int .u64 (m0.x.g.base + 1 + ((j + 1 : Nat) : Int))) (XR rfl rfl (by omega)) (by congr 1; omega))) ?_
  refine Ps (Qe ?_)
  refine QQ (q' := QC _ _ _ _ _ _ _) rfl ?_
  refine Qv ((j + 1, (vi', va', vt'), R3)) (⟨by dsimp only; omega, ⟨h1', h2', h3'⟩, Hp.le_trans hR2 hR3⟩) (by dsimp only; omega) (eC rfl (eC rfl (eC rfl (eC rfl (eC rfl (eC rfl (eC rfl (eC rfl (eC rfl eN))))))))) rfl sb_
  refine QR rfl ?_
  try simp only [cC]
  refine Qy (wn0 rfl) rfl zeroValue78 rfl (fun b18 => ?_)
  refine QS le_ sb_ ?_
  refine Xa [9, 10] (by kernel_rfl) ⟨?_, ?_, trivial⟩
  refine QR rfl ?_
  try simp only [cC]
  refine Pa (Qn rfl rfl) ?_
  refine QS le_ sb_ ?_
  refine Xa [10, 12] (by kernel_rfl) ⟨?_, ?_, trivial⟩
  refine QR rfl ?_
  try simp only [cC]
  refine Pa (Qn rfl rfl) ?_
  refine QS le_ sb_ ?_
  refine Xa [12] (by kernel_rfl) ⟨?_, trivial⟩
  refine QR rfl ?_
  try simp only [cC]
  refine Qr m78 rfl (wn0 rfl) rfl rfl (YX h1' h2' h3') fd_ (by exact Nat.le_refl 3) rfl ?_
  refine QS le_ sb_ ?_
  refine YE ?_
  try simp only [cC]
  refine Ps (Qe (hK23 _ _ _ (Qd fun K34 hK34 => Qd fun K35 hK35 => Qc ?_)))
  refine Pm ?_
  refine Pa (Xe rfl) (Pm ?_)
  refine Pb (Qg rfl) ?_
  refine Pb (Xe rfl) ?_
  refine Pa (Qo rfl rfl) (Qe (hK35 _ _ _ (Qt rfl (Qj (hK34 _ _ _ (Qc (Pm ?_)))))))
  refine Pa (Lb m78) ?_
  refine Pa (Qf rfl) ?_
  refine Pa (Ga underlying80 sizeOf78) ?_
  refine Qr m78 rfl (wn0 rfl) rfl rfl (YX h1' h2' h3') fd_ (Nat.le_of_ble_eq_true rfl) rfl ?_
  refine Qe (hK21 _ _ _ (Qc (Pm ?_)))
  refine Pa ((Yld.to (u := .int .u64 (m0.x.g.base + 1 + ((j + 1 : Nat) : Int))) (XR rfl rfl (by omega)) (by congr 1; omega))) ?_
  refine Ps (Qe ?_)
  refine QQ (q' := QC _ _ _ _ _ _ _) rfl ?_
  refine Qv ((j + 1, (vi', va', vt'), R3)) (⟨by dsimp only; omega, ⟨h1', h2', h3'⟩, Hp.le_trans hR2 hR3⟩) (by dsimp only; omega) (eC rfl (eC rfl (eC rfl (eC rfl (eC rfl (eC rfl (eC rfl (eC rfl (eC rfl eN))))))))) rfl sb_
  refine QR rfl ?_
  try simp only [cC]
  refine Qr m78 rfl (wn0 rfl) rfl rfl (YX h1' h2' h3') fd_ (by exact Nat.le_refl 3) rfl ?_
  refine QS le_ sb_ ?_
  refine Xa [10] (by kernel_rfl) ⟨?_, trivial⟩
  refine QR rfl ?_
  try simp only [cC]
  refine Pa (Qn rfl rfl) ?_
  refine QS le_ sb_ ?_
  refine YE ?_
  try simp only [cC]
  refine Ps (Qe (hK23 _ _ _ ?_))
  refine Ql (eL 0 rfl (eL 1 rfl (eL 2 rfl (eL 7 rfl (eL 8 rfl (eL 9 rfl (eL 15 rfl (eL 17 rfl (eL 18 rfl (eL 19 rfl (eL 21 rfl (eL 22 rfl eN)))))))))))) ?_
  refine Qd fun K36 hK36 => Qd fun K37 hK37 => Qc (Pm ?_)
  refine Pa (Xe rfl) (Pm ?_)
  refine Pb (Qg rfl) ?_
  refine Pb (Xe rfl) ?_
  refine Pa (Qo rfl rfl) (Qe (hK37 _ _ _ (Qt rfl (Qj (hK36 _ _ _ (Qc (Pm ?_)))))))
  refine Pa (Lb m78) ?_
  refine Pa (Qf rfl) ?_
  refine Pa (Ga underlying80 sizeOf78) ?_
  refine Qr m78 rfl (wn0 rfl) rfl rfl (YX h1' h2' h3') fd_ (Nat.le_of_ble_eq_true rfl) rfl ?_
  refine Qe (hK21 _ _ _ (Qc (Pm ?_)))
  refine Pa ((Yld.to (u := .int .u64 (m0.x.g.base + 1 + ((j + 1 : Nat) : Int))) (XR rfl rfl (by omega)) (by congr 1; omega))) ?_
  refine Ps (Qe ?_)
  refine QQ (q' := QC _ _ _ _ _ _ _) rfl ?_
  refine Qv ((j + 1, (vi', va', vt'), R3)) (⟨by dsimp only; omega, ⟨h1', h2', h3'⟩, Hp.le_trans hR2 hR3⟩) (by dsimp only; omega) (eC rfl (eC rfl (eC rfl (eC rfl (eC rfl (eC rfl (eC rfl (eC rfl (eC rfl eN))))))))) rfl sb_
  refine QR rfl ?_
  try simp only [cC]
  refine Pa (Qn rfl rfl) ?_
  refine QS le_ sb_ ?_
  refine Xa [9] (by kernel_rfl) ⟨?_, trivial⟩
  refine QR rfl ?_
  try simp only [cC]
  refine Pa (Qn rfl rfl) ?_
  refine QS le_ sb_ ?_
  refine Xa [12] (by kernel_rfl) ⟨?_, trivial⟩
  refine QR rfl ?_
  try simp only [cC]
  refine Qr m78 rfl (wn0 rfl) rfl rfl (YX h1' h2' h3') fd_ (by exact Nat.le_refl 3) rfl ?_
  refine QS le_ sb_ ?_
  refine YE ?_
  try simp only [cC]
  refine Ps (Qe (hK23 _ _ _ (Qd fun K38 hK38 => Qd fun K39 hK39 => Qc ?_)))
  refine Pm ?_
  refine Pa (Xe rfl) (Pm ?_)
  refine Pb (Qg rfl) ?_
  refine Pb (Xe rfl) ?_
  refine Pa (Qo rfl rfl) (Qe (hK39 _ _ _ ?_))
  refine Ql (eL 0 rfl (eL 1 rfl (eL 2 rfl (eL 7 rfl (eL 8 rfl (eL 9 rfl (eL 15 rfl (eL 18 rfl (eL 21 rfl (eL 22 rfl (eL 95 rfl eN))))))))))) ?_
  refine Qt rfl (Qj (hK38 _ _ _ (Qc (Pm ?_))))
  refine Pa (Lb m78) ?_
  refine Pa (Qf rfl) ?_
  refine Pa (Ga underlying80 sizeOf78) ?_
  refine Qr m78 rfl (wn0 rfl) rfl rfl (YX h1' h2' h3') fd_ (Nat.le_of_ble_eq_true rfl) rfl ?_
  refine Qe (hK21 _ _ _ (Qc (Pm ?_)))
  refine Pa ((Yld.to (u := .int .u64 (m0.x.g.base + 1 + ((j + 1 : Nat) : Int))) (XR rfl rfl (by omega)) (by congr 1; omega))) ?_
  refine Ps (Qe ?_)
  refine QQ (q' := QC _ _ _ _ _ _ _) rfl ?_
  refine Qv ((j + 1, (vi', va', vt'), R3)) (⟨by dsimp only; omega, ⟨h1', h2', h3'⟩, Hp.le_trans hR2 hR3⟩) (by dsimp only; omega) (eC rfl (eC rfl (eC rfl (eC rfl (eC rfl (eC rfl (eC rfl (eC rfl (eC rfl eN))))))))) rfl sb_
  refine QR rfl ?_
  try simp only [cC]
  refine Qy (wn0 rfl) rfl zeroValue78 rfl (fun b18 => ?_)
  refine QS le_ sb_ ?_
  refine Xa [8] (by kernel_rfl) ⟨?_, trivial⟩
  refine QR rfl ?_
  try simp only [cC]
  refine Pm ?_
  refine QS le_ sb_ ?_
  refine Xa [9, 10] (by kernel_rfl) ⟨?_, ?_, trivial⟩
  refine QR rfl ?_
  try simp only [cC]
  refine Pa (Qn rfl rfl) ?_
  refine QS le_ sb_ ?_
  refine Xa [10, 12] (by kernel_rfl) ⟨?_, ?_, trivial⟩
  refine QR rfl ?_
  try simp only [cC]
  refine Pa (Qn rfl rfl) ?_
  refine QS le_ sb_ ?_
  refine Xa [12] (by kernel_rfl) ⟨?_, trivial⟩
  refine QR rfl ?_
  try simp only [cC]
  refine Qr m78 rfl (wn0 rfl) rfl rfl (YX h1' h2' h3') fd_ (by exact Nat.le_refl 3) rfl ?_
  refine QS le_ sb_ ?_
  refine YE ?_
  try simp only [cC]
  refine Ps (Qe (hK23 _ _ _ (Qd fun K40 hK40 => Qd fun K41 hK41 => Qc ?_)))
  refine Pm ?_
  refine Pa (Xe rfl) (Pm ?_)
  refine Pb (Qg rfl) ?_
  refine Pb (Xe rfl) ?_
  refine Pa (Qo rfl rfl) (Qe (hK41 _ _ _ (Qt rfl (Qj (hK40 _ _ _ (Qc (Pm ?_)))))))
  refine Pa (Lb m78) ?_
  refine Pa (Qf rfl) ?_
  refine Pa (Ga underlying80 sizeOf78) ?_
  refine Qr m78 rfl (wn0 rfl) rfl rfl (YX h1' h2' h3') fd_ (Nat.le_of_ble_eq_true rfl) rfl ?_
  refine Qe (hK21 _ _ _ ?_)
  refine Ql (eL 0 rfl (eL 1 rfl (eL 2 rfl (eL 7 rfl (eL 8 rfl (eL 9 rfl (eL 15 rfl (eL 21 rfl (eL 22 rfl eN))))))))) ?_
  refine Qc (Pm ?_)
  refine Pa ((Yld.to (u := .int .u64 (m0.x.g.base + 1 + ((j + 1 : Nat) : Int))) (XR rfl rfl (by omega)) (by congr 1; omega))) ?_
  refine Ps (Qe ?_)
  refine QQ (q' := QC _ _ _ _ _ _ _) rfl ?_
  refine Qv ((j + 1, (vi', va', vt'), R3)) (⟨by dsimp only; omega, ⟨h1', h2', h3'⟩, Hp.le_trans hR2 hR3⟩) (by dsimp only; omega) (eC rfl (eC rfl (eC rfl (eC rfl (eC rfl (eC rfl (eC rfl (eC rfl (eC rfl eN))))))))) rfl sb_
  refine QR rfl ?_
  try simp only [cC]
  refine Qr m78 rfl (wn0 rfl) rfl rfl (YX h1' h2' h3') fd_ (by exact Nat.le_refl 3) rfl ?_
  refine QS le_ sb_ ?_
  refine Xa [10] (by kernel_rfl) ⟨?_, trivial⟩
  refine QR rfl ?_
  try simp only [cC]
  refine Pa (Qn rfl rfl) ?_
  refine QS le_ sb_ ?_
  refine YE ?_
  try simp only [cC]
  refine Ps (Qe (hK23 _ _ _ (Qd fun K42 hK42 => Qd fun K43 hK43 => Qc ?_)))
  refine Pm ?_
  refine Pa (Xe rfl) (Pm ?_)
  refine Pb (Qg rfl) ?_
  refine Pb (Xe rfl) ?_
  refine Pa (Qo rfl rfl) (Qe (hK43 _ _ _ (Qt rfl (Qj (hK42 _ _ _ (Qc (Pm ?_)))))))
  refine Pa (Lb m78) ?_
  refine Pa (Qf rfl) ?_
  refine Pa (Ga underlying80 sizeOf78) ?_
  refine Qr m78 rfl (wn0 rfl) rfl rfl (YX h1' h2' h3') fd_ (Nat.le_of_ble_eq_true rfl) rfl ?_
  refine Qe (hK21 _ _ _ (Qc (Pm ?_)))
  refine Pa ((Yld.to (u := .int .u64 (m0.x.g.base + 1 + ((j + 1 : Nat) : Int))) (XR rfl rfl (by omega)) (by congr 1; omega))) ?_
  refine Ps (Qe ?_)
  refine QQ (q' := QC _ _ _ _ _ _ _) rfl ?_
  refine Qv ((j + 1, (vi', va', vt'), R3)) (⟨by dsimp only; omega, ⟨h1', h2', h3'⟩, Hp.le_trans hR2 hR3⟩) (by dsimp only; omega) (eC rfl (eC rfl (eC rfl (eC rfl (eC rfl (eC rfl (eC rfl (eC rfl (eC rfl eN))))))))) rfl sb_
  refine QR rfl ?_
  try simp only [cC]
  refine Pa (Qn rfl rfl) ?_
  refine QS le_ sb_ ?_
  refine Xa [9] (by kernel_rfl) ⟨?_, trivial⟩
  refine QR rfl ?_
  try simp only [cC]
  refine Pa (Qn rfl rfl) ?_
  refine QS le_ sb_ ?_
  refine Xa [12] (by kernel_rfl) ⟨?_, trivial⟩
  refine QR rfl ?_
  try simp only [cC]
  refine Qr m78 rfl (wn0 rfl) rfl rfl (YX h1' h2' h3') fd_ (by exact Nat.le_refl 3) rfl ?_
  refine QS le_ sb_ ?_
  refine YE ?_
  try simp only [cC]
  refine Ps (Qe (hK23 _ _ _ ?_))
  refine Ql (eL 0 rfl (eL 1 rfl (eL 2 rfl (eL 7 rfl (eL 8 rfl (eL 9 rfl (eL 15 rfl (eL 17 rfl (eL 18 rfl (eL 19 rfl (eL 21 rfl (eL 22 rfl eN)))))))))))) ?_
  refine Qd fun K44 hK44 => Qd fun K45 hK45 => Qc (Pm ?_)
  refine Pa (Xe rfl) (Pm ?_)
  refine Pb (Qg rfl) ?_
  refine Pb (Xe rfl) ?_
  refine Pa (Qo rfl rfl) (Qe (hK45 _ _ _ (Qt rfl (Qj (hK44 _ _ _ (Qc (Pm ?_)))))))
  refine Pa (Lb m78) ?_
  refine Pa (Qf rfl) ?_
  refine Pa (Ga underlying80 sizeOf78) ?_
  refine Qr m78 rfl (wn0 rfl) rfl rfl (YX h1' h2' h3') fd_ (Nat.le_of_ble_eq_true rfl) rfl ?_
  refine Qe (hK21 _ _ _ (Qc (Pm ?_)))
  refine Pa ((Yld.to (u := .int .u64 (m0.x.g.base + 1 + ((j + 1 : Nat) : Int))) (XR rfl rfl (by omega)) (by congr 1; omega))) ?_
  refine Ps (Qe ?_)
  refine QQ (q' := QC _ _ _ _ _ _ _) rfl ?_
  refine Qv ((j + 1, (vi', va', vt'), R3)) (⟨by dsimp only; omega, ⟨h1', h2', h3'⟩, Hp.le_trans hR2 hR3⟩) (by dsimp only; omega) (eC rfl (eC rfl (eC rfl (eC rfl (eC rfl (eC rfl (eC rfl (eC rfl (eC rfl eN))))))))) rfl sb_
  refine QR rfl ?_
  try simp only [cC]
  refine Qy (wn0 rfl) rfl zeroValue78 rfl (fun b18 => ?_)
  refine QS le_ sb_ ?_
  refine Xa [7] (by kernel_rfl) ⟨?_, trivial⟩
  refine QR rfl ?_
  try simp only [cC]
  refine Ra call41 (Qi9 vi va vt (Zv W0.ch m0 j) (m0.x.g.base + 1 + j) e m0.x.g.term h2 h1 h3 hkl hkn) ?_
  rintro r R3 L' hR3 ⟨vi', va', vt', rfl, ⟨h1', h2', h3'⟩, rfl⟩
  rw [← hks]
  try simp only [cB]
  refine QS le_ sb_ ?_
  refine Xa [8] (by kernel_rfl) ⟨?_, trivial⟩
  refine QR rfl ?_
  try simp only [cC]
  refine Pm ?_
  refine QS le_ sb_ ?_
  refine Xa [9, 10] (by kernel_rfl) ⟨?_, ?_, trivial⟩
  refine QR rfl ?_
  try simp only [cC]
  refine Pa (Qn rfl rfl) ?_
  refine QS le_ sb_ ?_
  refine Xa [10, 12] (by kernel_rfl) ⟨?_, ?_, trivial⟩
  refine QR rfl ?_
  try simp only [cC]
  refine Pa (Qn rfl rfl) ?_
  refine QS le_ sb_ ?_
  refine Xa [12] (by kernel_rfl) ⟨?_, trivial⟩
  refine QR rfl ?_
  try simp only [cC]
  refine Qr m78 rfl (wn0 rfl) rfl rfl (YX h1' h2' h3') fd_ (by exact Nat.le_refl 3) rfl ?_
  refine QS le_ sb_ ?_
  refine YE ?_
  try simp only [cC]
  refine Ps (Qe (hK23 _ _ _ (Qd fun K46 hK46 => Qd fun K47 hK47 => Qc ?_)))
  refine Pm ?_
  refine Pa (Xe rfl) (Pm ?_)
  refine Pb (Qg rfl) ?_
  refine Pb (Xe rfl) ?_
  refine Pa (Qo rfl rfl) (Qe (hK47 _ _ _ ?_))
  refine Ql (eL 0 rfl (eL 1 rfl (eL 2 rfl (eL 7 rfl (eL 8 rfl (eL 9 rfl (eL 15 rfl (eL 18 rfl (eL 21 rfl (eL 22 rfl (eL 95 rfl eN))))))))))) ?_
  refine Qt rfl (Qj (hK46 _ _ _ (Qc (Pm ?_))))
  refine Pa (Lb m78) ?_
  refine Pa (Qf rfl) ?_
  refine Pa (Ga underlying80 sizeOf78) ?_
  refine Qr m78 rfl (wn0 rfl) rfl rfl (YX h1' h2' h3') fd_ (Nat.le_of_ble_eq_true rfl) rfl ?_
  refine Qe (hK21 _ _ _ (Qc (Pm ?_)))
  refine Pa ((Yld.to (u := .int .u64 (m0.x.g.base + 1 + ((j + 1 : Nat) : Int))) (XR rfl rfl (by omega)) (by congr 1; omega))) ?_
  refine Ps (Qe ?_)
  refine QQ (q' := QC _ _ _ _ _ _ _) rfl ?_
  refine Qv ((j + 1, (vi', va', vt'), R3)) (⟨by dsimp only; omega, ⟨h1', h2', h3'⟩, Hp.le_trans hR2 hR3⟩) (by dsimp only; omega) (eC rfl (eC rfl (eC rfl (eC rfl (eC rfl (eC rfl (eC rfl (eC rfl (eC rfl eN))))))))) rfl sb_
  refine QR rfl ?_
  try simp only [cC]
  refine Qr m78 rfl (wn0 rfl) rfl rfl (YX h1' h2' h3') fd_ (by exact Nat.le_refl 3) rfl ?_
  refine QS le_ sb_ ?_
  refine Xa [10] (by kernel_rfl) ⟨?_, trivial⟩
  refine QR rfl ?_
  try simp only [cC]
  refine Pa (Qn rfl rfl) ?_
  refine QS le_ sb_ ?_
  refine YE ?_
  try simp only [cC]
  refine Ps (Qe (hK23 _ _ _ (Qd fun K48 hK48 => Qd fun K49 hK49 => Qc ?_)))
  refine Pm ?_
  refine Pa (Xe rfl) (Pm ?_)
  refine Pb (Qg rfl) ?_
  refine Pb (Xe rfl) ?_
  refine Pa (Qo rfl rfl) (Qe (hK49 _ _ _ (Qt rfl (Qj (hK48 _ _ _ (Qc (Pm ?_)))))))
  refine Pa (Lb m78) ?_
  refine Pa (Qf rfl) ?_
  refine Pa (Ga underlying80 sizeOf78) ?_
  refine Qr m78 rfl (wn0 rfl) rfl rfl (YX h1' h2' h3') fd_ (Nat.le_of_ble_eq_true rfl) rfl ?_
  refine Qe (hK21 _ _ _ ?_)
  refine Ql (eL 0 rfl (eL 1 rfl (eL 2 rfl (eL 7 rfl (eL 8 rfl (eL 9 rfl (eL 15 rfl (eL 21 rfl (eL 22 rfl eN))))))))) ?_
  refine Qc (Pm ?_)
  refine Pa ((Yld.to (u := .int .u64 (m0.x.g.base + 1 + ((j + 1 : Nat) : Int))) (XR rfl rfl (by omega)) (by congr 1; omega))) ?_
  refine Ps (Qe ?_)
  refine QQ (q' := QC _ _ _ _ _ _ _) rfl ?_
  refine Qv ((j + 1, (vi', va', vt'), R3)) (⟨by dsimp only; omega, ⟨h1', h2', h3'⟩, Hp.le_trans hR2 hR3⟩) (by dsimp only; omega) (eC rfl (eC rfl (eC rfl (eC rfl (eC rfl (eC rfl (eC rfl (eC rfl (eC rfl eN))))))))) rfl sb_
  refine QR rfl ?_
  try simp only [cC]
  refine Pa (Qn rfl rfl) ?_
  refine QS le_ sb_ ?_
  refine Xa [9] (by kernel_rfl) ⟨?_, trivial⟩
  refine QR rfl ?_
  try simp only [cC]
  refine Pa (Qn rfl rfl) ?_
  refine QS le_ sb_ ?_
  refine Xa [12] (by kernel_rfl) ⟨?_, trivial⟩
  refine QR rfl ?_
  try simp only [cC]
  refine Qr m78 rfl (wn0 rfl) rfl rfl (YX h1' h2' h3') fd_ (by exact Nat.le_refl 3) rfl ?_
  refine QS le_ sb_ ?_
  refine YE ?_
  try simp only [cC]
  refine Ps (Qe (hK23 _ _ _ (Qd fun K50 hK50 => Qd fun K51 hK51 => Qc ?_)))
  refine Pm ?_
  refine Pa (Xe rfl) (Pm ?_)
  refine Pb (Qg rfl) ?_
  refine Pb (Xe rfl) ?_
  refine Pa (Qo rfl rfl) (Qe (hK51 _ _ _ (Qt rfl (Qj (hK50 _ _ _ (Qc (Pm ?_)))))))
  refine Pa (Lb m78) ?_
  refine Pa (Qf rfl) ?_
  refine Pa (Ga underlying80 sizeOf78) ?_
  refine Qr m78 rfl (wn0 rfl) rfl rfl (YX h1' h2' h3') fd_ (Nat.le_of_ble_eq_true rfl) rfl ?_
  refine Qe (hK21 _ _ _ (Qc (Pm ?_)))
  refine Pa ((Yld.to (u := .int .u64 (m0.x.g.base + 1 + ((j + 1 : Nat) : Int))) (XR rfl rfl (by omega)) (by congr 1; omega))) ?_
  refine Ps (Qe ?_)
  refine QQ (q' := QC _ _ _ _ _ _ _) rfl ?_
  refine Qv ((j + 1, (vi', va', vt'), R3)) (⟨by dsimp only; omega, ⟨h1', h2', h3'⟩, Hp.le_trans hR2 hR3⟩) (by dsimp only; omega) (eC rfl (eC rfl (eC rfl (eC rfl (eC rfl (eC rfl (eC rfl (eC rfl (eC rfl eN))))))))) rfl sb_
  try simp only [dx] at hc69
  refine QD (hK16 _ _ _ ?_)
  refine Ql (eL 0 rfl (eL 1 rfl (eL 2 rfl (eL 7 rfl (eL 8 rfl (eL 21 rfl (eL 22 rfl eN))))))) ?_
  refine Qd fun K52 hK52 => ?_
  have hjn : j = cmN m0 := by have hz := hc69; omega
  rw [hjn, ← hch3]
  refine Zp (A := grA w G) fd_ (Qes hc0 hm0) (fun hq => ?_)
  obtain ⟨q0, cap0, hq0⟩ := hq
  refine Qc (Pm (Pm ?_))
  refine Pa (Ca call17 ((Qjk (w := w) hc0 hm0).eq3 hq0)) (Ps (Qe (hK52 _ _ _ (Qd fun K53 hK53 => Qd fun K54 hK54 => Qc ?_))))
  refine Pm (Pm ?_)
  refine Pa (Qf rfl) ?_
  refine Pa (Ga underlying80 sizeOf42) ?_
  refine Pa (La o42) ?_
  refine Pa (Ca call27 ((hq0 ▸ (Qjl (w := w) hc0 hm0 vl0 W0.lo)).eq3 (v' := .bool true) (by rw [hlo.lo.1]))) ?_
  refine Pa (Xe rfl) (Pm ?_)
  refine Pb (Qg rfl) ?_
  refine Pb (Qg rfl) ?_
  refine Pb (Ca call18 (QcH (w := w) hc0 hm0)) ?_
  refine Pb (Qg rfl) ?_
  refine Pb (Ca call39 (Qd0 hc0 hm0)) ?_
  refine Pb ((Yld.to (u := .bool false) (Xv rfl rfl) (by have := hlo.ap; rw [decide_eq_false (by omega)]))) ?_
  refine Pa (Qo rfl rfl) (Qe (hK54 _ _ _ ?_))
  refine Ql (eL 0 rfl (eL 1 rfl (eL 2 rfl (eL 20 rfl (eL 21 rfl (eL 22 rfl (eL 117 rfl eN))))))) ?_
  refine Qt rfl (Qj (hK53 _ _ _ (Qd fun K55 hK55 => Qc (Pm ?_))))
  refine Pa (QU underlying42 rfl) (Pm ?_)
  refine Pa (Qf rfl) ?_
  refine Pa (Ga underlying80 sizeOf42) ?_
  refine Pa (La o42) ?_
  refine Pa (YM underlying42 rfl fd_) ?_
  refine Pa (Xv rfl rfl) (Qe (hK55 _ _ _ ?_))
  refine Qm rfl (fun hc125 => ?_) (fun hc125 => ?_)
  have hgt : m0.l.length > W0.lo.length := by have hz := hc125; simp at hz; omega
  have hlo4 : W9.lo = m0.l := by rw [hlo3, if_pos hgt]
  refine Qc (Pm ?_)
  refine Qu (sz := 1) (wn0 rfl) rfl underlying42 sizeOf9 zeroValue9 rfl rfl rfl (by decide) (by decide) (fun b127 => ?_)
  refine Pm ?_
  refine QT (sz := 1) (by_ := 16) ⟨underlying42, _, _, rfl, rfl, rfl, rfl, rfl⟩ (wn0 rfl) rfl rfl rfl fd_ ((hq0 ▸ Qlw (w := w) (G := G) underlying42 fd_ hc0 hm0)) rfl om_ (by simp only [maxLen]; omega) (fun v129 ho129 hh129 => ?_)
  rw [show 0 + m0.l.length = m0.l.length from Nat.zero_add _, List.nil_append]
  rw [← hlo4, hW9]
  refine Pa (Qf rfl) ?_
  refine Pa (Ga underlying80 sizeOf42) ?_
  refine Sa o42 ?_
  refine Qe (hK7 _ _ _ (Qc ?_))
  refine Pa (Qw rfl rfl om_) (Pm (Qe ?_))
  refine QQ (q' := QC _ _ _ _ _ _ _) rfl ?_
  refine Qv ((i + 1, ⟨bM, vi, va, vt, v129⟩, R2)) (⟨by dsimp only; omega, ⟨h1, h2, h3, by assumption⟩, Hp.le_trans hR1 hR2⟩) (by dsimp only; omega) (eC rfl (eC rfl (eC rfl (eC rfl (eC rfl eN))))) rfl sb_
  have hgt : ¬ m0.l.length > W0.lo.length := by have hz := hc125; simp at hz; omega
  have hlo4 : W9.lo = W0.lo := by rw [hlo3, if_neg hgt]
  rw [← hlo4, hW9]
  refine Qj (hK7 _ _ _ (Qc ?_))
  refine Pa (Qw rfl rfl om_) (Pm (Qe ?_))
  refine QQ (q' := QC _ _ _ _ _ _ _) rfl ?_
  refine Qv ((i + 1, ⟨bM, vi, va, vt, vl0⟩, R2)) (⟨by dsimp only; omega, ⟨h1, h2, h3, hv1.vl⟩, Hp.le_trans hR1 hR2⟩) (by dsimp only; omega) (eC rfl (eC rfl (eC rfl (eC rfl (eC rfl eN))))) rfl sb_
 refine Qd fun K57 hK57 => Qc (Pm ?_)
 refine Pa (Ca call38 (Qdl hc0 hm0)) ?_
 refine Pa (QE rfl rfl) (Qe (hK57 _ _ _ ?_))
 refine Qm rfl (fun hc35 => ?_) (fun hc35 => ?_)
 have hro : m0.x.role = 2 := by have hz := hc35; simpa using hz
 obtain ⟨old, there, hlk, hlk2⟩ := Ql4 (hlo.ld hro)
 refine Qd fun K59 hK59 => Qd fun K60 hK60 => Qc (Pm ?_)
 refine Pa (Qf rfl) ?_
 refine Pa (Ga underlying80 sizeOf74) ?_
 refine Pa (La o74) (Pm ?_)
 refine Pa ((Yld.to (u := QF [.int .i64 old, .bool there]) (QjE underlying74 underlying36 zeroValue3 rfl rfl fd_) (by rw [← hlk]; rfl))) (Pm ?_)
 refine Pa (Qn rfl rfl) ?_
 refine Pa (Qn rfl rfl) (Ps (Ps (Qe (hK60 _ _ _ ?_))))
 refine Ql (eL 0 rfl (eL 1 rfl (eL 2 rfl (eL 7 rfl (eL 8 rfl (eL 9 rfl (eL 10 rfl (eL 11 rfl (eL 21 rfl (eL 22 rfl eN)))))))))) ?_
 refine Qd fun K61 hK61 => Qc (Pm (Pm ?_))
 refine QG 46 rfl (fun hg46 => ?_) (fun hg46 => ?_)
 have hold : old = (i : Int) := hlk2 hg46
 refine Pb (Qg rfl) ?_
 refine Pb (Qg rfl) ?_
 refine Pb ((Yld.to (u := .bool false) (Yb rfl rfl) (by rw [hold]; simp))) ?_
 refine Pa (Qs rfl rfl) (Qe (hK61 _ _ _ (Qt rfl (Qj (hK59 _ _ _ (Qc (Pm ?_)))))))
 refine Pa (Qf rfl) ?_
 refine Pa (Ga underlying80 sizeOf74) ?_
 refine Pa (La o74) (Pm (Pm ?_))
 refine zu underlying74 underlying36 (wn0 rfl) rfl rfl rfl fd_ ?_
 refine Qe ?_
 refine QL hJ12 ((qM (ldF W0) m0.x.g.term (.int .i64 (i : Int)), if ((ldF W0) m0.x.g.term).isSome then W0.nld else W0.nld + 1)) (⟨by dsimp only; rw [QgQ]; unfold ZY; rw [if_pos hro], by dsimp only; rw [Qfm]; unfold ZY; rw [if_pos hro]; rfl⟩) (eC rfl (eC rfl (eC rfl (eC rfl (eC rfl (eC rfl (eC rfl (eC rfl eN)))))))) rfl sb_
 try simp only [dx] at hg46
 refine Pk (Pk (Pk ?_))
 refine Pa (Qo rfl rfl) (Qe (hK61 _ _ _ (Qt rfl (Qj (hK59 _ _ _ (Qc (Pm ?_)))))))
 refine Pa (Qf rfl) ?_
 refine Pa (Ga underlying80 sizeOf74) ?_
 refine Pa (La o74) (Pm (Pm ?_))
 refine zu underlying74 underlying36 (wn0 rfl) rfl rfl rfl fd_ ?_
 refine Qe ?_
 refine QL hJ12 ((qM (ldF W0) m0.x.g.term (.int .i64 (i : Int)), if ((ldF W0) m0.x.g.term).isSome then W0.nld else W0.nld + 1)) (⟨by dsimp only; rw [QgQ]; unfold ZY; rw [if_pos hro], by dsimp only; rw [Qfm]; unfold ZY; rw [if_pos hro]; rfl⟩) (eC rfl (eC rfl (eC rfl (eC rfl (eC rfl (eC rfl (eC rfl (eC rfl eN)))))))) rfl sb_
 have hro : ¬ m0.x.role = 2 := by have hz := hc35; simpa using hz
 refine Qj ?_
 refine QL hJ12 ((ldF W0, W0.nld)) (⟨by dsimp only; unfold ZY; rw [if_neg hro], by dsimp only; unfold ZY; rw [if_neg hro]⟩) (eC rfl (eC rfl (eC rfl (eC rfl (eC rfl (eC rfl (eC rfl (eC rfl eN)))))))) rfl sb_
 try simp only [dx] at hc23
 refine QD (hK2 _ _ _ ?_)
 refine Ql (eL 0 rfl (eL 1 rfl (eL 2 rfl eN))) ?_
 refine Qd fun K62 hK62 => ?_
 have hin : i = n := by have hz := hc23; omega
 rw [hin]
 refine Qc (Pm (Pm (Pm ?_)))
 refine Pa (Ca call42 (Qif b v1 (Yi G W n) w G n hn (hok.mono hR1) hw hc hv1)) (Ps (Qe (hK62 _ _ _ (Qi (hret _ _ _ ?_)))))
 apply XN results14 (.cons (Qh rfl) .nil) _ (wtL b v1 (Yi G W n) ++ grL w G) hR1 rfl
 case hp => exact ⟨rfl, hR1, v1, hv1, rfl⟩
 case hS => exact sb_
theorem QcF {R : Hp} (ni : Int) (hb : ni < 1 ∨ 9 < ni) : Tri prog 19 [.int .i64 ni, fnV] R []
  (fun r R' L' => r = QF [.pointer none, .int .i64 1] ∧ R' = R ∧ L' = []) := by
 refine Qp func19 rfl ntmps19 rfl (fun σ F Q hret hend hpan => ?_)
 try simp only [cB]
 refine Qd fun K1 hK1 => Qc (Ps (Ps (Qe (hK1 _ _ _ (Qd fun K2 hK2 => Qd fun K3 hK3 => Qc ?_)))))
 refine Pm ?_
 refine Pa (QP rfl rfl) (Pm ?_)
 refine QG 11 rfl (fun hg11 => ?_) (fun hg11 => ?_)
 try simp only [dx] at hg11
 refine Pk (Pk ?_)
 refine Pa (Qs rfl rfl) (Pm (Pk (Pk ?_)))
 refine Pa (Qs rfl rfl) (Qe (hK3 _ _ _ (Qz rfl (Qd fun K4 hK4 => Qc ?_))))
 refine Ps (Ps (Qe (hK4 _ _ _ (Qi (hret _ _ _ ?_)))))
 refine Ea results19 (.cons (Qh rfl) (.cons (Qh rfl) .nil)) [] le_ ?_
 exact ⟨rfl, rfl, rfl⟩
 try simp only [dx] at hg11
 refine Pb (Qg rfl) ?_
 refine Pb (Xv rfl rfl) ?_
 refine Pa (Qo rfl rfl) (Pm ?_)
 refine QG 15 rfl (fun hg15 => ?_) (fun hg15 => ?_)
 try simp only [dx] at hg15
 refine Pk (Pk ?_)
 refine Pa (Qs rfl rfl) (Qe (hK3 _ _ _ ?_))
 refine Ql (eL 0 rfl (eL 1 rfl (eL 18 rfl eN))) ?_
 refine Qz rfl (Qd fun K5 hK5 => Qc (Ps (Ps (Qe (hK5 _ _ _ (Qi (hret _ _ _ ?_)))))))
 refine Ea results19 (.cons (Qh rfl) (.cons (Qh rfl) .nil)) [] le_ ?_
 exact ⟨rfl, rfl, rfl⟩
 ·exact absurd hb (by (try simp at hg11 hg15); omega)
def WS0 : WS := ⟨fun _ => none, 0, [], []⟩
structure PlayOK (n : Nat) (J : Nat → Nat → GS → Prop) (S : GS → WS → Prop) : Prop where
 init : S (GS.new n) WS0
 step : ∀ G W e c d, e.Bd → e.sm → J (c + 60) (d + 60) G → S G W → (∀ i m, i < n → (G.doE n e).ms[i]? = some m → m.dn = false → LookOK (Yi (G.doE n e) W i) i m) ∧ yB (G.doE n e) n (Yi (G.doE n e) W n).ch ∧ S (G.doE n e) (Yi (G.doE n e) W n)
theorem QmY {R : Hp} (n : Nat) (hn : 1 ≤ n ∧ n ≤ 9) {C : Nat} {J : Nat → Nat → GS → Prop} (hB : Bud n C J) {S : GS → WS → Prop} (hS : PlayOK n J S) (l : List Ev) (va : Value) (hva : FrX evE R l va) (hbd : ∀ e ∈ l, e.Bd) (hsm : ∀ e ∈ l, e.sm) (c d : Nat) (hC : n * C ≤ n * c + 100000) (hj : J (c + l.length * 60) (d + l.length * 60) (GS.new n)) :
  Tri prog 11 [.int .i64 (n : Int), va] R []
   (fun r R' L' => ∃ w G b v W, r = QF [.pointer (some ⟨w.g, 0, none⟩), .pointer (some ⟨b, 0, none⟩), .bool true] ∧ R.le R' ∧ GOk R' w G ∧ WVk v ∧ S G W ∧ J c d G ∧ L' = wtL b v W ++ grL w G) := by
 obtain ⟨q, cap, rfl, hq1, hq2⟩ := hva.shape
 unfold maxLen at hq2
 refine Qp func11 rfl ntmps11 rfl (fun σ F Q hret hend hpan => ?_)
 try simp only [cB]
 refine Qd fun K1 hK1 => Qc (Ps (Ps (Ps (Qe (hK1 _ _ _ (Qd fun K2 hK2 => Qc ?_))))))
 refine Pm ?_
 refine Ra call19 (QgW n (by omega)) ?_
 rintro r R2 L' hR2 ⟨w, rfl, hok, rfl⟩
 try simp only [cB]
 refine Pm ?_
 refine Pa (Qn rfl rfl) ?_
 refine Pa (Qn rfl rfl) (Ps (Ps (Qe (hK2 _ _ _ (Qd fun K3 hK3 => Qc ?_)))))
 refine Qcp (ik := .u64) (wn0 rfl) rfl (fun bm => ?_)
 refine Pa (QZ (cells := [_, _, _, _, _]) [(0, 1), (1, 3), (4, 1)] underlying80 zeroValue80 (fun _ => rfl) rfl rfl) ?_
 refine QY (wn0 rfl) rfl rfl rfl (fun bw => ?_)
 refine Ps (Qe (hK3 _ _ _ (Qd fun K4 hK4 => Qd fun K5 hK5 => Qc ?_)))
 refine Pm ?_
 refine Pa ((Yld.to (u := .bool false) (Yb rfl rfl) (by simp))) (Qe (hK5 _ _ _ (Qt rfl (Qj (hK4 _ _ _ (Qd fun K6 hK6 => Qd fun K7 hK7 => Qc ?_))))))
 refine YB (A := chI (.slice none 0 0) []) (Yd _ _) ?_
 refine YB (A := chA (.slice none 0 0) []) (Yd _ _) ?_
 refine YB (A := chT (.slice none 0 0) []) (Yd _ _) ?_
 refine YB (A := lsS (.slice none 0 0) []) (Yd _ _) ?_
 refine Pm ?_
 refine Pa (QU underlying23 rfl) (Pm (Qe (hK7 _ _ _ (Qq ?_))))
 refine Ql (E' := (fun (x : Nat × (GV × WV × Hp) × (GS × WS)) => [(0, .int .i64 (n : Int)), (7, .pointer (some ⟨w.g, 0, none⟩)), (9, .pointer (some ⟨bw, 0, none⟩)), (24, .slice q l.length cap), (25, .int .i64 (l.length : Int)), (26, .int .i64 (x.1 : Int))]) (0, (w, ⟨bm, .slice none 0 0, .slice none 0 0, .slice none 0 0, .slice none 0 0⟩, R2), (GS.new n, WS0))) (eC rfl (eC rfl (eC rfl (eC rfl (eC rfl (eC rfl eN)))))) ?_
 refine Xj (M := (fun (x : Nat × (GV × WV × Hp) × (GS × WS)) => wtL bw x.2.1.2.1 x.2.2.2 ++ (grL x.2.1.1 x.2.2.1 ++ F)) (0, (w, ⟨bm, .slice none 0 0, .slice none 0 0, .slice none 0 0, .slice none 0 0⟩, R2), (GS.new n, WS0))) sb_ ?_
 refine QV (fun (x : Nat × (GV × WV × Hp) × (GS × WS)) => [(0, .int .i64 (n : Int)), (7, .pointer (some ⟨w.g, 0, none⟩)), (9, .pointer (some ⟨bw, 0, none⟩)), (24, .slice q l.length cap), (25, .int .i64 (l.length : Int)), (26, .int .i64 (x.1 : Int))]) (fun (x : Nat × (GV × WV × Hp) × (GS × WS)) => x.2.1.2.2) (fun (x : Nat × (GV × WV × Hp) × (GS × WS)) => wtL bw x.2.1.2.1 x.2.2.2 ++ (grL x.2.1.1 x.2.2.1 ++ F)) (fun (x : Nat × (GV × WV × Hp) × (GS × WS)) => x.1 ≤ l.length ∧ (∃ vn css vo cs, x.2.1.1 = ⟨w.g, w.va, w.n, vn, css, vo, cs⟩) ∧ GOk x.2.1.2.2 x.2.1.1 x.2.2.1 ∧ R.le x.2.1.2.2 ∧ J (c + (l.length - x.1) * 60) (d + (l.length - x.1) * 60) x.2.2.1 ∧ S x.2.2.1 x.2.2.2 ∧ WVk x.2.1.2.1) (fun (x : Nat × (GV × WV × Hp) × (GS × WS)) => l.length - x.1) (0, (w, ⟨bm, .slice none 0 0, .slice none 0 0, .slice none 0 0, .slice none 0 0⟩, R2), (GS.new n, WS0)) (⟨by simp, ⟨_, _, _, _, rfl⟩, hok, hR2, hj, hS.init, ⟨rfl, rfl, rfl, rfl⟩⟩) ?_
 rintro ⟨i, ⟨w1, v1, R4⟩, ⟨G, W⟩⟩ ⟨hi, hg1, hok1, hR4, hjG, hSG, hv1⟩
 try dsimp only
 dsimp only at hi hg1 hok1 hR4 hjG hSG hv1
 obtain ⟨vn1, css1, vo1, cs1, rfl⟩ := hg1
 refine Qd fun K8 hK8 => Qc ?_
 refine Pa (QP rfl rfl) (Qe (hK8 _ _ _ (Qd fun K9 hK9 => ?_)))
 refine Qm rfl (fun hc27 => ?_) (fun hc27 => ?_)
 try simp only [dx] at hc27
 refine Qj (hK9 _ _ _ (Qd fun K11 hK11 => Qq (Qd fun K12 hK12 => ?_)))
 have hi2 : i < l.length := by have hz := hc27; omega
 obtain ⟨a, ha⟩ : ∃ x, l[i]? = some x := ⟨_, List.getElem?_eq_getElem hi2⟩
 have ham := List.mem_of_getElem? ha
 obtain ⟨be, oe, ce, cse, hee, rfl, _, hcell⟩ := (hva.mono hR4).at ha
 obtain ⟨rfl, rfl⟩ : q = some ⟨be, oe, none⟩ ∧ cap = ce := by cases hee; exact ⟨rfl, rfl⟩
 rw [show (l.length - i) * 60 = (l.length - (i + 1)) * 60 + 60 by omega, ← Nat.add_assoc, ← Nat.add_assoc] at hjG
 have hst := hS.step G W a _ _ (hbd a ham) (hsm a ham) hjG hSG
 have hjn := hB.doE (by omega) (hbd a ham) (hsm a ham) hjG
 refine Qc ?_
 refine Pa (QB underlying23 sizeOf53 rfl rfl om_) ?_
 refine Pa ((Yc m53 (vs := evC a) rfl rfl (fun j u hj => hcell j u hj))) ?_
 refine Qy (wn0 rfl) rfl zeroValue53 rfl (fun b6 => ?_)
 refine Sm (vs := evC a) m53 Qdn ?_
 refine Qe (hK12 _ _ _ ?_)
 refine Ql (eL 0 rfl (eL 7 rfl (eL 9 rfl (eL 11 rfl (eL 24 rfl (eL 25 rfl (eL 26 rfl eN))))))) ?_
 refine Qd fun K13 hK13 => Qc (Pm (Pm ?_))
 refine Pa ((Lb (vs := evC a) m53)) ?_
 refine Ra call21 (Qn4 ⟨w.g, w.va, w.n, vn1, css1, vo1, cs1⟩ G n _ _ C hB (by omega) (by have := Nat.mul_le_mul_left n (show c ≤ c + (l.length - (i + 1)) * 60 by omega); omega) a (hbd a ham) (hsm a ham) hok1 hjG) ?_
 rintro x R5 L' hR5 ⟨vn5, css5, vo5, cs5, hok5, rfl⟩
 try simp only [cB]
 refine Qe (hK13 _ _ _ (Qd fun K14 hK14 => Qc (Pm (Pm (Pm ?_)))))
 refine Ra call14 (Qm6 bw v1 W ⟨w.g, w.va, w.n, vn5, css5, vo5, cs5⟩ (G.doE n a) n (hB.ln _ _ _ hjn).symm hok5 (hB.gw _ _ _ hjn) hv1 hst.1 hst.2.1) ?_
 rintro r R6 L' hR6 ⟨rfl, _, v2, hv2, rfl⟩
 try simp only [cB]
 refine Pa (Xe rfl) (Qe (hK14 _ _ _ (Qt rfl (Qj (hK11 _ _ _ (Qc ?_))))))
 refine Pa (Qw rfl rfl om_) (Pm (Qe ?_))
 refine QQ (q' := QC _ _ _ _ _ _ _) rfl ?_
 refine Qv ((i + 1, (⟨w.g, w.va, w.n, vn5, css5, vo5, cs5⟩, v2, R6), (G.doE n a, Yi (G.doE n a) W n))) (⟨by dsimp only; omega, ⟨_, _, _, _, rfl⟩, hok5.mono hR6, Hp.le_trans hR4 (Hp.le_trans hR5 hR6), hjn, hst.2.2, hv2⟩) (by dsimp only; omega) (eC rfl (eC rfl (eC rfl (eC rfl (eC rfl (eC rfl eN)))))) rfl sb_
 try simp only [dx] at hc27
 refine QD (hK6 _ _ _ (Qd fun K15 hK15 => Qc (Pm (Pm (Ps (Ps (Ps (Qe (hK15 _ _ _ (Qi (hret _ _ _ ?_)))))))))))
 refine Ea results11 (.cons (Qh rfl) (.cons (Qh rfl) (.cons (Qh rfl) .nil))) (wtL bw v1 W ++ grL ⟨w.g, w.va, w.n, vn1, css1, vo1, cs1⟩ G) (by first | exact hR4 | exact Hp.le_refl _) ?_
 exact ⟨⟨w.g, w.va, w.n, vn1, css1, vo1, cs1⟩, G, bw, v1, W, rfl, hR4, hok1, hv1, hSG, by rw [show i = l.length by have hz := hc27; omega] at hjG; simpa using hjG, rfl⟩
theorem Qga {R : Hp} {C3 c3 d3 : Nat} {J3 : Nat → Nat → GS → Prop} (hB3 : Bud 3 C3 J3) (hj3 : J3 (c3 + 10 * (3 + 200) + 1 + 60 * (3 + 200)) (d3 + 10 * 3 + 1 + 60 * 3) (GS.new 3)) (t : Int) (haw : AwOK t)
  {C : Nat} {JJ : Nat → Nat → Nat → GS → Prop} (hBB : ∀ n, Bud n C (JJ n)) {SS : Nat → GS → WS → Prop} (hSS : ∀ n, 1 ≤ n ∧ n ≤ 7 → PlayOK n (JJ n) (SS n)) {c d : Nat} (hC : ∀ n, n ≤ 7 → n * C ≤ n * c + 100000) (hJJ : ∀ n, 1 ≤ n ∧ n ≤ 7 → JJ n (c + 4800) (d + 4800) (GS.new n)) (ni : Int) (va : Value) (ys : List EvY) (h0 : Qc1 4 evR R [va] ys) :
  Tri prog 8 [.int .i64 ni, va] R [] (fun v R' L' => v = .bool true) := by
 obtain ⟨hva, hbd⟩ := Qne h0
 obtain ⟨l, hl⟩ : ∃ l, l = ys.map Qb9 := ⟨_, rfl⟩
 rw [← hl] at hva hbd
 refine Qp func8 rfl ntmps8 rfl (fun σ F Q hret hend hpan => ?_)
 try simp only [cB]
 refine Qd fun K1 hK1 => Qc (Ps (Qe (hK1 _ _ _ (Qd fun K2 hK2 => Qd fun K3 hK3 => Qc ?_))))
 refine Ra call9 (Qjz hB3 hj3 t haw) ?_
 rintro r R1 L' hR1 ⟨rfl, rfl⟩
 try simp only [cB]
 refine Pa (Xe rfl) (Qe (hK3 _ _ _ (Qt rfl (Qj (hK2 _ _ _ (Qd fun K4 hK4 => Qd fun K5 hK5 => Qc ?_))))))
 refine Pm ?_
 refine Pa (QP rfl rfl) (Pm ?_)
 refine QG 14 rfl (fun hg14 => ?_) (fun hg14 => ?_)
 have hbad : ni < 1 ∨ 9 < ni := by have hz := hg14; (try simp at hz); omega
 refine Pk (Pk ?_)
 refine Pa (Qs rfl rfl) (Qe (hK5 _ _ _ (Qz rfl (Qd fun K6 hK6 => Qc ?_))))
 refine Pm ?_
 refine Ra call19 (QcF ni hbad) ?_
 rintro r R2 L' hR2 ⟨rfl, rfl, rfl⟩
 try simp only [cB]
 refine Pm ?_
 refine Pa (Qn rfl rfl) ?_
 refine Pa (Qn rfl rfl) (Ps (Ps (Qe (hK6 _ _ _ (Qd fun K7 hK7 => Qc ?_)))))
 refine Pm ?_
 refine Pa (XY underlying26 rfl rfl) (Pm ?_)
 refine Pb (Qg rfl) ?_
 refine Pb (QE rfl rfl) ?_
 refine Pa (Qs rfl rfl) (Ps (Qe (hK7 _ _ _ ?_)))
 refine Ql (eL 4 rfl eN) ?_
 refine Qi (hret _ _ _ ?_)
 refine Ea results8 (.cons (Qh rfl) .nil) [] (by first | exact hR1 | exact Hp.le_trans hR1 hR3 | exact Hp.le_refl _) ?_
 rfl
 try simp only [dx] at hg14
 refine Pb (Qg rfl) ?_
 refine Pb (Xv rfl rfl) ?_
 refine Pa (Qo rfl rfl) (Qe (hK5 _ _ _ ?_))
 refine Qm rfl (fun hc17 => ?_) (fun hc17 => ?_)
 have hbad : ni < 1 ∨ 9 < ni := by have hz := hc17; (try simp at hz hg14); omega
 refine Qd fun K9 hK9 => Qc (Pm ?_)
 refine Ra call19 (QcF ni hbad) ?_
 rintro r R2 L' hR2 ⟨rfl, rfl, rfl⟩
 try simp only [cB]
 refine Pm ?_
 refine Pa (Qn rfl rfl) ?_
 refine Pa (Qn rfl rfl) (Ps (Ps (Qe (hK9 _ _ _ (Qd fun K10 hK10 => Qc ?_)))))
 refine Pm ?_
 refine Pa (XY underlying26 rfl rfl) (Pm ?_)
 refine Pb (Qg rfl) ?_
 refine Pb (QE rfl rfl) ?_
 refine Pa (Qs rfl rfl) (Ps (Qe (hK10 _ _ _ (Qi (hret _ _ _ ?_)))))
 refine Ea results8 (.cons (Qh rfl) .nil) [] (by first | exact hR1 | exact Hp.le_trans hR1 hR3 | exact Hp.le_refl _) ?_
 rfl
 obtain ⟨n, rfl⟩ : ∃ n : Nat, ni = (n : Int) := ⟨ni.toNat, by (try simp at hg14 hc17); omega⟩
 have hn : 1 ≤ n ∧ n ≤ 9 := by (try simp at hg14 hc17); omega
 refine Qj (hK4 _ _ _ (Qd fun K11 hK11 => Qd fun K12 hK12 => Qc (Pm ?_)))
 refine Pa (Xv rfl rfl) (Pm ?_)
 refine QG 31 rfl (fun hg31 => ?_) (fun hg31 => ?_)
 try simp only [dx] at hg31
 refine Pk (Pk (Pk ?_))
 refine Pa (Qs rfl rfl) (Qe (hK12 _ _ _ ?_))
 refine Ql (eL 0 rfl (eL 1 rfl (eL 35 rfl eN))) ?_
 refine Qz rfl (Qd fun K13 hK13 => Qc (Ps (Qe (hK13 _ _ _ (Qi (hret _ _ _ ?_))))))
 refine Ea results8 (.cons (Qh rfl) .nil) [] (by first | exact hR1 | exact Hp.le_trans hR1 hR3 | exact Hp.le_refl _) ?_
 rfl
 try simp only [dx] at hg31
 refine Pb (Qg rfl) ?_
 refine XO (wn1 rfl rfl rfl rfl) rfl call10 rfl (QiA va l (hva.mono hR1) 80) sp_ (fun _ _ _ _ h => h.elim) ?_
 rintro r R2 L' hR2 ⟨⟨s, rfl, hs⟩, rfl, rfl⟩
 try simp only [cB]
 refine Pb (Xe rfl) ?_
 refine Pa (Qo rfl rfl) (Qe (hK12 _ _ _ ?_))
 refine Qm rfl (fun hc35 => ?_) (fun hc35 => ?_)
 try simp only [dx] at hc35
 refine Qd fun K15 hK15 => Qc (Ps (Qe (hK15 _ _ _ (Qi (hret _ _ _ ?_)))))
 refine Ea results8 (.cons (Qh rfl) .nil) [] (by first | exact hR1 | exact Hp.le_trans hR1 hR3 | exact Hp.le_refl _) ?_
 rfl
 have hsx : s = true := by have hz := hc35; simpa using hz
 have hs80 := (hs hsx).1
 refine Qj (hK11 _ _ _ (Qd fun K16 hK16 => Qc (Pm (Pm ?_))))
 refine Ra call11 (QmY n (by omega) (hBB n) (hSS n (by omega)) l va (hva.mono hR1) hbd (hs hsx).2 c d (hC n (by omega)) ((hBB n).leq (by omega) (by omega) (hJJ n (by omega)))) ?_
 rintro r R3 L' hR3 ⟨w, G, bw, v, W, rfl, _, hok, hv, hSG, hjG, rfl⟩
 try simp only [cB]
 refine Pm ?_
 refine Pa (Qn rfl rfl) ?_
 refine Pa (Qn rfl rfl) ?_
 refine Pa (Qn rfl rfl) (Ps (Ps (Ps (Qe (hK16 _ _ _ (Qd fun K17 hK17 => Qc ?_))))))
 refine Pm (Ps (Qe (hK17 _ _ _ (Qi (hret _ _ _ ?_)))))
 refine Ea results8 (.cons (Qh rfl) .nil) [] (by first | exact hR1 | exact Hp.le_trans hR1 hR3 | exact Hp.le_refl _) ?_
 rfl
theorem Later.bind {n : Nat} {Γ : GH} {G G' : GS} (h : Later n Γ G) (f : ∀ Δ, SafeI n Δ G → Later n Δ G') : Later n Γ G' := by
 obtain ⟨Δ, h1, h2⟩ := h
 obtain ⟨Ε, h3, h4⟩ := f Δ h2
 exact ⟨Ε, le_trans h1 h3, h4⟩
theorem QhX {n c d : Nat} {Γ : GH} {G : GS} (h : SafeI n Γ G) (hj : GJ n (c + 1) (d + 1) G) (i : Nat) : Later n Γ (G.tick i) := by
 obtain ⟨a, t, I, ha, ht, g⟩ := hj
 exact h.tick g (by omega) (by omega)
theorem QdT {n c d : Nat} {Γ : GH} {G : GS} (h : SafeI n Γ G) (hj : GJ n (c + 1) d G) (k : Int) : Later n Γ (G.deliver k) := by
 obtain ⟨a, t, I, ha, ht, g⟩ := hj
 exact h.deliver g k (by omega) (by omega)
theorem QhY {n c d : Nat} {Γ : GH} {G : GS} (h : SafeI n Γ G) (hj : GJ n (c + 1) (d + 1) G) (i : Nat) {cmd : Bs} (hc : cmd.length ≤ 100) : Later n Γ (G.propose i cmd).2 := by
 obtain ⟨a, t, I, ha, ht, g⟩ := hj
 exact h.prop g hc (by omega) (by omega)
theorem QhZ {n c d : Nat} {Γ : GH} {G : GS} (h : SafeI n Γ G) (hj : GJ n (c + 1) d G) (i : Nat) : Later n Γ (G.compact i).2 := by
 obtain ⟨a, t, I, ha, ht, g⟩ := hj
 exact h.comp g (by omega) (by omega)
theorem Qf8 {n c d : Nat} {Γ : GH} {G : GS} (h : SafeI n Γ G) (hj : GJ n (c + 1) d G) (i : Nat) (k : Int) : Later n Γ (G.crash i k) := by
 obtain ⟨a, t, I, ha, ht, g⟩ := hj
 exact h.crash g k
theorem QbF {n i : Nat} (hi : i < n) {Γ : GH} {G : GS} (h : SafeI n Γ G) : ∀ {k c d : Nat}, GJ n (c + k) (d + k) G → Later n Γ (G.tickN i k)
 | 0, _, _, _ => h.later
 | k + 1, c, d, hj => (QbF hi h (k := k) (c := c + 1) (d := d + 1) (by rw [show c + 1 + k = c + (k + 1) by omega, show d + 1 + k = d + (k + 1) by omega]; exact hj)).bind fun Δ hd => QhX hd ((bud n).tickN hi (c := c + 1) (d := d + 1) (by rw [show c + 1 + k = c + (k + 1) by omega, show d + 1 + k = d + (k + 1) by omega]; exact hj)) i
theorem QcA {n : Nat} {Γ : GH} {G : GS} (h : SafeI n Γ G) : ∀ {k c d : Nat}, GJ n (c + k) d G → Later n Γ (G.delN k)
 | 0, _, _, _ => h.later
 | k + 1, c, d, hj => (QcA h (k := k) (c := c + 1) (d := d) (by rw [show c + 1 + k = c + (k + 1) by omega]; exact hj)).bind fun Δ hd => QdT hd ((bud n).delN (c := c + 1) (by rw [show c + 1 + k = c + (k + 1) by omega]; exact hj)) 0
theorem Qi8 {n c d : Nat} {Γ : GH} {G : GS} {e : Ev} (hn : 0 < n) (hb : e.Bd) (hs : e.sm) (hj : GJ n (c + 60) (d + 60) G) (h : SafeI n Γ G) : Later n Γ (G.doE n e) := by
 have hi := Qh3 e.i (n := n) (by omega)
 have hil : (idx e.i n).toNat < n := by omega
 have h1 : GJ n (c + 1) (d + 1) G := (bud n).leq (by omega) (by omega) hj
 have h0 : GJ n (c + 1) d G := (bud n).leq (by omega) (by omega) hj
 unfold GS.doE GS.does
 split
 ·rename_i hw
  have := hs.n (.inl hw)
  exact QbF hil h (c := c) (d := d) ((bud n).leq (by omega) (by omega) hj)
 ·split
  ·exact QdT h h0 _
  ·split
   ·exact (h.drop _).later
   ·split
    ·split
     ·exact (h.twice _).later
     ·exact h.later
    ·split
     ·exact QhY h h1 _ hs.text
     ·split
      ·exact QhZ h h0 _
      ·split
       ·exact Qf8 h h0 _ _
       ·split
        ·exact h.fuel _
        ·split
         ·rename_i hw
          have := hs.n (.inr hw)
          exact QcA h (c := c) (d := d) ((bud n).leq (by omega) (by omega) hj)
         ·exact h.later
def ChI (n : Nat) (Γ : GH) (q : Ch) : Prop := ∃ k : Nat, q.1 = k ∧ 1 ≤ k ∧ k ≤ 9500 ∧ ∃ p, Γ.cmt n p q.2.2 ∧ p[k - 1]? = some q.2.1
structure ChsI (n : Nat) (Γ : GH) (l : List Ch) : Prop where
 at_ : ∀ q ∈ l, ChI n Γ q
 nd : (l.map (·.1)).Nodup
structure WI (n : Nat) (Γ : GH) (W : WS) : Prop where
 ld : ∀ t i, W.ld t = some i → ∃ x : Nat, i = x ∧ Γ.el t x
 ch : ChsI n Γ W.ch
 lo : W.lo.length ≤ 9500 ∧ ∃ p τ, Γ.cmt n p τ ∧ W.lo = YP p
theorem ChsI.mono {n : Nat} {A B : GH} (h : A.le n B) {l : List Ch} (hw : ChsI n A l) : ChsI n B l :=
 ⟨fun q hq => by obtain ⟨k, a, b, c, p, d, e⟩ := hw.at_ q hq; exact ⟨k, a, b, c, p, Za h d, e⟩, hw.nd⟩
theorem WI.mono {n : Nat} {A B : GH} (h : A.le n B) {W : WS} (hw : WI n A W) : WI n B W :=
 ⟨fun t i e => by obtain ⟨x, a, b⟩ := hw.ld t i e; exact ⟨x, a, h.el _ _ b⟩, hw.ch.mono h, hw.lo.1, by obtain ⟨p, τ, a, b⟩ := hw.lo.2; exact ⟨p, τ, Za h a, b⟩⟩
theorem WI.new (n : Nat) (Γ : GH) : WI n Γ WS0 := ⟨fun t i e => (by cases e), ⟨fun q hq => (by cases hq), List.nodup_nil⟩, by decide, [], 0, .inl rfl, rfl⟩
theorem ChsI.len {n : Nat} {Γ : GH} {l : List Ch} (h : ChsI n Γ l) : l.length ≤ 9501 := by
 have h1 : (l.map (fun q => q.1.toNat)).Nodup := by
  have h2 := h.nd
  rw [List.Nodup, List.pairwise_map] at h2 ⊢
  refine h2.imp_of_mem fun {a b} ha hb hne he => hne ?_
  obtain ⟨k, e1, _⟩ := h.at_ a ha
  obtain ⟨j, e2, _⟩ := h.at_ b hb
  omega
 have h3 := QbV 9501 _ h1 (fun i hi => by
  obtain ⟨q, hq, rfl⟩ := List.mem_map.1 hi
  obtain ⟨k, e1, _, e2, _⟩ := h.at_ q hq
  omega)
 simpa using h3
theorem QgS {n : Nat} {Γ : GH} (hi : GHI n Γ) {l : List Ch} (h : ChsI n Γ l) {j : Nat} (hj : 1 ≤ j ∧ j ≤ 9500) {e : Ent} {τ : Int} {p : List Ent} (hp : Γ.cmt n p τ) (he : p[j - 1]? = some e) :
  (∀ k q, YZ l (j : Int) = some k → l[k]? = some q → q.2.1 = e) ∧ ChsI n Γ (qH l j e τ) := by
 have hsame : ∀ k q, YZ l (j : Int) = some k → l[k]? = some q → q.2.1 = e := fun k q hk hq => by
  obtain ⟨q', hq', hqj⟩ := QbS hk
  rw [hq] at hq'
  obtain rfl := Option.some.inj hq'
  obtain ⟨k', e1, _, _, p', e2, e3⟩ := h.at_ q (List.mem_of_getElem? hq)
  obtain rfl : k' = j := by omega
  have key : ∀ A B : List Ent, A <+: B → ∀ x y, A[k' - 1]? = some x → B[k' - 1]? = some y → x = y := fun A B hAB x y hx hy => by
   obtain ⟨r, rfl⟩ := hAB
   rw [List.getElem?_append_left (List.getElem?_eq_some_iff.1 hx).1, hx] at hy
   exact Option.some.inj hy
  rcases Qds hi e2 hp with h4 | h4
  ·exact key _ _ h4 _ _ e3 he
  ·exact (key _ _ h4 _ _ he e3).symm
 refine ⟨hsame, ?_⟩
 unfold qH
 cases hpl : YZ l (j : Int) with
 | none =>
  dsimp only
  have hno : ∀ q ∈ l, ¬ q.1 = (j : Int) := fun q hq hqj => by
   unfold YZ at hpl
   rw [List.findIdx?_eq_none_iff] at hpl
   have := hpl q hq
   simp [hqj] at this
  refine ⟨fun q hq => ?_, ?_⟩
  ·rcases List.mem_append.1 hq with hq | hq
   ·exact h.at_ q hq
   ·simp only [List.mem_singleton] at hq
    subst hq
    exact ⟨j, rfl, hj.1, hj.2, p, hp, he⟩
  ·rw [List.map_append, List.nodup_append]
   refine ⟨h.nd, by simp, fun a ha b hb e => ?_⟩
   obtain ⟨q, hq, rfl⟩ := List.mem_map.1 ha
   simp only [List.map_cons, List.map_nil, List.mem_singleton] at hb
   exact hno q hq (e.trans hb)
 | some k =>
  dsimp only
  cases hq : l[k]? with
  | none => exact h
  | some q =>
   dsimp only
   split
   ·have hqe := hsame k q hpl hq
    obtain ⟨q', hq', hqj⟩ := QbS hpl
    rw [hq] at hq'
    obtain rfl := Option.some.inj hq'
    refine ⟨fun r hr => ?_, ?_⟩
    ·rcases List.mem_or_eq_of_mem_set hr with hr | hr
     ·exact h.at_ r hr
     ·subst hr
      exact ⟨j, hqj, hj.1, hj.2, p, hp, by dsimp only; rw [he, hqe]⟩
    ·have : (l.set k (q.1, q.2.1, τ)).map (·.1) = l.map (·.1) := by
      rw [List.map_set]
      apply List.ext_getElem?
      intro i
      by_cases hki : k = i
      ·subst hki
       rw [List.getElem?_set_self (by simpa using (List.getElem?_eq_some_iff.1 hq).1), List.getElem?_map, hq]
       rfl
      ·rw [List.getElem?_set_ne hki]
     rw [this]; exact h.nd
   ·exact h
structure Seen (n : Nat) (Γ : GH) (i : Nat) (m : MS) (F : List Ent) : Prop where
 ni : NodeI n Γ i m.x F
 l : m.l = YP (F.take m.ap.toNat)
 ap : m.ap ≤ m.x.commit
 cm : m.x.g.base ≤ m.x.commit ∧ m.x.commit ≤ m.x.g.last
 la : m.x.g.last ≤ 9400
 ll : (m.l.length : Int) ≤ m.ap
 ap0 : 0 ≤ m.ap
theorem Qc3 {n c d : Nat} {Γ : GH} {G : GS} (h : SafeI n Γ G) (hj : GJ n c d G) {i : Nat} {m : MS} (hm : G.ms[i]? = some m) (hu : m.dn = false) : ∃ F, Seen n Γ i m F := by
 obtain ⟨a, t, I, ha, ht, g⟩ := hj
 have mi := g.ms i m hm
 have hI := g.I
 have u : MU a I (17000000 + 6000 * a) i n m := by
  rcases mi.st with u | d
  ·exact u
  ·rw [YO d.1] at hu; cases hu
 obtain ⟨F, h1, h2⟩ := (h.ms i m hm).up (by rw [hu]; decide)
 have h3 := u.ub.inn.last
 exact ⟨F, h1, h2, u.ap, u.ub.inn.commit, by omega, mi.l.1, by have := mi.l.1; omega⟩
theorem Seen.at {n : Nat} {Γ : GH} {i : Nat} {m : MS} {F : List Ent} (h : Seen n Γ i m F) {j : Nat} (hj : j < cmN m) : ∃ e k : Nat, ∃ x : Ent, (k : Int) = m.x.g.base + 1 + j ∧ 1 ≤ k ∧ k ≤ 9500 ∧ m.x.g.at (m.x.g.base + 1 + j) = some x ∧ (F.take m.x.commit.toNat)[k - 1]? = some x := by
 have hag := h.ni.lo.ag
 have hb := hag.b0
 have hl := hag.last
 have hc := h.cm
 have hla := h.la
 unfold cmN at hj
 obtain ⟨k, hk⟩ : ∃ k : Nat, (k : Int) = m.x.g.base + 1 + j := ⟨(m.x.g.base + 1 + j).toNat, by omega⟩
 have hkF : k - 1 < F.length := by omega
 refine ⟨0, k, F[k - 1], hk, by omega, by omega, ?_, ?_⟩
 ·rw [← hk, hag.at (by omega)]
  exact List.getElem?_eq_getElem hkF
 ·rw [List.getElem?_take_of_lt (by omega)]
  exact List.getElem?_eq_getElem hkF
theorem Qad {n : Nat} {Γ : GH} (hi : GHI n Γ) {i : Nat} {m : MS} {F : List Ent} (h : Seen n Γ i m F) {ch : List Ch} (hc : ChsI n Γ ch) : ∀ j, j ≤ cmN m → ChsI n Γ (Zv ch m j)
 | 0, _ => hc
 | j + 1, hj => by
  obtain ⟨_, k, x, h1, h2, h3, h4, h5⟩ := h.at (j := j) (by omega)
  rw [QcB h4, ← h1]
  exact (QgS hi (Qad hi h hc j (by omega)) ⟨h2, h3⟩ h.ni.cm h5).2
theorem Qeu {A B : List Ent} (h : A <+: B) : YP A <+: YP B := by
 obtain ⟨r, rfl⟩ := h
 rw [Qev]
 exact List.prefix_append _ _
theorem Qih {a b : List Bs} (h : a <+: b ∨ b <+: a) : qK a b = true := by
 unfold qK
 refine decide_eq_true ?_
 rcases h with h | h
 ·have hl := h.length_le
  rw [Nat.min_eq_left hl, List.take_length]
  exact (List.prefix_iff_eq_take.1 h)
 ·have hl := h.length_le
  rw [Nat.min_eq_right hl, List.take_length]
  exact (List.prefix_iff_eq_take.1 h).symm
theorem Seen.look {n : Nat} {Γ : GH} (hi : GHI n Γ) {i : Nat} {m : MS} {F : List Ent} (h : Seen n Γ i m F) {W : WS} (hw : WI n Γ W) : LookOK W i m where
 ld := fun hr => by
  cases hx : W.ld m.x.g.term with
  | none => exact .inl rfl
  | some j =>
   obtain ⟨x, e1, e2⟩ := hw.ld _ _ hx
   obtain rfl := hi.one _ _ _ e2 (h.ni.ld hr).1
   exact .inr (by rw [e1])
 bc := by
  have := h.ni.lo.ag.b0
  have := h.cm
  have := h.la
  omega
 at_ := fun j hj => by
  obtain ⟨_, k, x, h1, h2, h3, h4, h5⟩ := h.at hj
  refine ⟨x, h4, ?_⟩
  rw [← h1]
  exact (QgS hi (Qad hi h hw.ch j (by omega)) ⟨h2, h3⟩ h.ni.cm h5).1
 len := fun j hj => by
  have := (Qad hi h hw.ch j hj).len
  omega
 lo := by
  have := hw.lo.1
  have := h.ll
  have := h.ap
  have := h.cm
  have := h.la
  refine ⟨Qih ?_, by omega, by omega⟩
  obtain ⟨p, τ, e1, e2⟩ := hw.lo.2
  rw [h.l, e2]
  have h1 : Γ.cmt n (F.take m.ap.toNat) m.x.g.term := qI h.ni.cm (List.take_prefix_take_left (by omega)) (Int.le_refl _)
  exact (Qds hi h1 e1).imp Qeu Qeu
 ap := h.ap
theorem Seen.step {n : Nat} {Γ : GH} (hi : GHI n Γ) {i : Nat} {m : MS} {F : List Ent} (hu : m.dn = false) (h : Seen n Γ i m F) {W : WS} (hw : WI n Γ W) : WI n Γ (qv W i m) := by
 unfold qv
 rw [if_neg (by rw [hu]; decide)]
 refine ⟨fun t j hj => ?_, Qad hi h hw.ch _ (Nat.le_refl _), ?_, ?_⟩
 ·have hj : (ZY W i m).ld t = some j := hj
  unfold ZY at hj
  split at hj
  ·rename_i hr
   unfold Qeh at hj
   dsimp only at hj
   split at hj
   ·rename_i ht
    obtain rfl := Option.some.inj hj
    exact ⟨i, rfl, ht ▸ (h.ni.ld hr).1⟩
   ·exact hw.ld _ _ hj
  ·exact hw.ld _ _ hj
 ·have := hw.lo.1
  have := h.ll
  have := h.ap
  have := h.cm
  have := h.la
  dsimp only
  split <;> omega
 ·dsimp only
  split
  ·exact ⟨F.take m.ap.toNat, m.x.g.term, qI h.ni.cm (List.take_prefix_take_left (by have := h.ap; omega)) (Int.le_refl _), h.l⟩
  ·exact hw.lo.2
theorem Qbj {n c d : Nat} {Γ : GH} {G : GS} (h : SafeI n Γ G) (hj : GJ n c d G) {W : WS} (hw : WI n Γ W) : ∀ i, WI n Γ (Yi G W i)
 | 0 => hw
 | i + 1 => by
  have ih := Qbj h hj hw i
  show WI n Γ (match G.ms[i]? with | some m => qv (Yi G W i) i m | none => Yi G W i)
  cases hm : G.ms[i]? with
  | none => exact ih
  | some m =>
   dsimp only
   by_cases hu : m.dn = false
   ·obtain ⟨F, hs⟩ := Qc3 h hj hm hu
    exact hs.step h.hi hu ih
   ·unfold qv
    rw [if_pos (by simpa using hu)]
    exact ih
theorem Qgg {n c d : Nat} {Γ : GH} {G : GS} (h : SafeI n Γ G) (hj : GJ n c d G) {ch : List Ch} (hc : ChsI n Γ ch) : yB G n ch := fun i m hi hm hu hr q hq => by
 obtain ⟨F, hs⟩ := Qc3 h hj hm hu
 obtain ⟨k, e1, e2, e3, p, e4, e5⟩ := hc.at_ q hq
 have hag := hs.ni.lo.ag
 refine ⟨by unfold QO; omega, ?_⟩
 by_cases h1 : q.1 ≤ m.x.g.base
 ·exact .inl h1
 ·by_cases h2 : q.2.2 > m.x.g.term
  ·exact .inr (.inl h2)
  ·refine .inr (.inr ?_)
   obtain ⟨g1, g2, _⟩ := hs.ni.ld hr
   have h3 := Qb2 h.hi g1 (show q.2.2 ≤ m.x.g.term by omega) e4
   rw [g2] at h3
   obtain ⟨r, hr⟩ := h3
   rw [e1, hag.at (by omega), ← hr, List.getElem?_append_left (List.getElem?_eq_some_iff.1 e5).1]
   exact e5
def SW (n : Nat) (G : GS) (W : WS) : Prop := ∃ Γ, SafeI n Γ G ∧ WI n Γ W
theorem SW.look {n c d : Nat} {G : GS} {W : WS} (h : SW n G W) (hj : GJ n c d G) : (∀ i m, i < n → G.ms[i]? = some m → m.dn = false → LookOK (Yi G W i) i m) ∧ yB G n (Yi G W n).ch ∧ SW n G (Yi G W n) := by
 obtain ⟨Γ, h1, h2⟩ := h
 refine ⟨fun i m hi hm hu => ?_, Qgg h1 hj (Qbj h1 hj h2 n).ch, Γ, h1, Qbj h1 hj h2 n⟩
 obtain ⟨F, hs⟩ := Qc3 h1 hj hm hu
 exact hs.look h1.hi (Qbj h1 hj h2 i)
theorem QmZ {n : Nat} (hn : 0 < n) : PlayOK n (GJ n) (SW n) where
 init := ⟨GH.new, SafeI.new n, WI.new n _⟩
 step := fun G W e c d hb hs hj ⟨Γ, h1, h2⟩ => by
  obtain ⟨Δ, h3, h4⟩ := Qi8 hn hb hs hj h1
  exact SW.look ⟨Δ, h4, h2.mono h3⟩ ((bud n).doE hn hb hs hj)
def Qb4 (a : Int) : List Int → List Int
 | [] => [a]
 | b :: l => if a ≤ b then a :: b :: l else b :: Qb4 a l
def Qcm (l : List Int) : List Int := l.foldr Qb4 []
theorem QaV (a : Int) : ∀ l : List Int, (Qb4 a l).Perm (a :: l)
 | [] => .refl _
 | b :: l => by
  unfold Qb4
  split
  ·exact .refl _
  ·exact ((QaV a l).cons b).trans (.swap a b l)
theorem QdW (a : Int) : ∀ {l : List Int}, l.Pairwise (fun a b => decide (a ≤ b) = true) → (Qb4 a l).Pairwise (fun a b => decide (a ≤ b) = true)
 | [], _ => by simp [Qb4]
 | b :: l, h => by
  unfold Qb4
  rw [List.pairwise_cons] at h
  split
  ·rename_i h1
   refine List.pairwise_cons.2 ⟨fun c hc => ?_, List.pairwise_cons.2 h⟩
   rcases List.mem_cons.1 hc with hc | hc
   ·subst hc; simpa using h1
   ·have := h.1 c hc; simp at *; omega
  ·refine List.pairwise_cons.2 ⟨fun c hc => ?_, QdW a h.2⟩
   rcases List.mem_cons.1 ((QaV a l).mem_iff.1 hc) with hc | hc
   ·subst hc; simp; omega
   ·exact h.1 c hc
theorem QjS (l : List Int) : l.mergeSort (fun a b => decide (a ≤ b)) = Qcm l := by
 have h1 := List.mergeSort_perm l (fun a b => decide (a ≤ b))
 have h2 := List.pairwise_mergeSort (le := fun (a b : Int) => decide (a ≤ b)) (fun a b c h1 h2 => by simp at *; omega) (fun a b => by simp; omega) l
 have h3 : (Qcm l).Perm l ∧ (Qcm l).Pairwise (fun a b => decide (a ≤ b) = true) := by
  unfold Qcm
  clear h1 h2
  induction l with
  | nil => exact ⟨.refl _, .nil⟩
  | cons a l ih => exact ⟨(QaV a _).trans (ih.1.cons a), QdW a ih.2⟩
 exact List.Perm.eq_of_pairwise (le := fun (a b : Int) => decide (a ≤ b) = true) (fun a b _ _ h1 h2 => by simp at *; omega) h2 h3.2 (h1.trans h3.1.symm)
def QhU (x : ND) : Int := (Qcm x.reach).getD ((x.n - 1) / 2) 0
def QcO (x : ND) : ND := if QhU x > x.commit ∧ x.tAt (QhU x) = x.g.term then { x with commit := QhU x } else x
theorem Qg8 : ND.count = QcO := by funext x; unfold ND.count QcO ND.mid QhU; rw [QjS]
def yz (s : NS) (cmd : Bs) : Bool × NS := Xh (QW s (s.1.g.addD s.2 s.1.g.last [(s.1.g.term, cmd)])) fun s => (true, ((QcO s.1).feedAll, s.2))
theorem Qg3 : Xf = yz := by funext s c; unfold Xf yz; rw [Qg8]
def Qhi (s : NS) : Bool × NS := yz (s.1.wins, s.2) []
theorem QkV : ZK = Qhi := by funext s; unfold ZK Qhi; rw [Qg3]
def QeJ (s : NS) : Bool × NS := Xh (QW s (s.1.g.setTermD s.2 (s.1.g.term + 1) s.1.id)) fun s =>
 if s.1.n = 1 then Qhi (s.1.stands, s.2) else (true, (s.1.stands.askAll, s.2))
theorem Qlt : Yq = QeJ := by funext s; unfold Yq QeJ; rw [QkV]
def Qhp (s : NS) : Bool × NS :=
 if s.1.role = 2 then if s.1.patience + 1 ≥ 3 then (true, ({ s.1 with patience := 0 }.feedAll, s.2)) else (true, ({ s.1 with patience := s.1.patience + 1 }, s.2))
 else if s.1.patience + 1 ≥ ZB s.1.id s.1.g.term then QeJ ({ s.1 with patience := s.1.patience + 1 }, s.2) else (true, ({ s.1 with patience := s.1.patience + 1 }, s.2))
theorem QmE : tickN = Qhp := by funext s; unfold tickN Qhp; rw [Qlt]
def Qer (s : NS) (m : Msg) : Bool × NS :=
 if ¬ s.1.role = 1 ∨ ¬ m.term = s.1.g.term ∨ m.ok = false then (true, s)
 else if 2 * ((Xi s.1.votes m.frm).length : Int) > s.1.n then Qhi ({ s.1 with votes := Xi s.1.votes m.frm }, s.2)
 else (true, ({ s.1 with votes := Xi s.1.votes m.frm }, s.2))
theorem Qlg : YA = Qer := by funext s m; unfold YA Qer; rw [QkV]
def Qfn (s : NS) (m : Msg) : Bool × NS :=
 if ¬ s.1.role = 2 ∨ ¬ m.term = s.1.g.term then (true, s)
 else
  let to := m.frm.toNat
  if m.ok = false then (true, ((s.1.setPeer to (max (min (s.1.nxt to - 1) (m.index + 1)) (s.1.mat to + 1), s.1.mat to)).feed to, s.2))
  else
   let k := max (s.1.mat to) (min m.index s.1.g.last)
   let x := QcO (s.1.setPeer to (k + 1, k))
   if k + 1 ≤ x.g.last then (true, (x.feed to, s.2)) else (true, (x, s.2))
theorem Ql8 : Ys = Qfn := by funext s m; unfold Ys Qfn; rw [Qg8]
def Qei (s : NS) (m : Msg) : Bool × NS :=
 if m.kind = 0 then ZC s m else if m.kind = 1 then Qer s m else if m.kind = 2 ∨ m.kind = 4 then Zk s m else if m.kind = 3 then Qfn s m else (true, s)
theorem Qm9 : Yo = Qei := by funext s m; unfold Yo Qei; rw [Qlg, Ql8]
def QbR (s : NS) (m : Msg) : Bool × NS :=
 if ¬ m.to = s.1.id ∨ m.frm = s.1.id ∨ m.frm < 0 ∨ m.frm ≥ s.1.n then (true, s)
 else if m.term > s.1.g.term then Xh (QW s (s.1.g.setTermD s.2 m.term (-1))) fun s => Qei (s.1.newTerm, s.2) m
 else Qei s m
theorem QiN : Xz = QbR := by funext s m; unfold Xz QbR; rw [Qm9]
def yD (s : NS) (cmd : Bs) : (Int × Int × List Msg) × NS :=
 if ¬ s.1.role = 2 then ((0, 0, []), s) else if Xt (XC s (fun s => yz s cmd)).2 = true then ((0, 0, []), (XC s (fun s => yz s cmd)).2)
 else (((XC s (fun s => yz s cmd)).2.1.g.last, (XC s (fun s => yz s cmd)).2.1.g.term, (XC s (fun s => yz s cmd)).1), (XC s (fun s => yz s cmd)).2)
theorem QiT : XM = yD := by funext s c; unfold XM yD; rw [Qg3]
def Qcx (m : MS) : MS × List Msg := m.act (XC (m.x, m.D) Qhp)
def Qcy (m : MS) (g : Msg) : MS × List Msg := m.act (XC (m.x, m.D) (fun s => QbR s g))
def QaR (m : MS) (c : Bs) : (Int × Int) × (MS × List Msg) := (((yD (m.x, m.D) c).1.1, (yD (m.x, m.D) c).1.2.1), m.act ((yD (m.x, m.D) c).1.2.2, (yD (m.x, m.D) c).2))
theorem QlU : MS.tick = Qcx := by funext m; unfold MS.tick Qcx; rw [QmE]
theorem QlW : MS.recv = Qcy := by funext m g; unfold MS.recv Qcy; rw [QiN]
theorem QlY : MS.prop = QaR := by funext m c; unfold MS.prop QaR; rw [QiT]
def Qfp (G : GS) (i : Nat) : GS := match G.ms[i]? with
 | none => G
 | some m => G.done i (Qcx m).1 (Qcx m).2
theorem Qma : GS.tick = Qfp := by funext G i; unfold GS.tick Qfp; rw [QlU]; try rfl
def Qej (G : GS) (k : Int) : GS :=
 if Ya G.st k = true then
  if 0 ≤ (atM G.st k).2.to then match G.ms[(atM G.st k).2.to.toNat]? with
   | none => G.take k
   | some m => (G.take k).done (atM G.st k).2.to.toNat (Qcy m (atM G.st k).2).1 (Qcy m (atM G.st k).2).2
  else G.take k
 else G
theorem Qna : GS.deliver = Qej := by funext G k; unfold GS.deliver Qej; rw [QlW]; try rfl
def Qji (G : GS) (i : Nat) (c : Bs) : (Int × Int) × GS := match G.ms[i]? with
 | none => ((0, 0), G)
 | some m => ((QaR m c).1, G.done i (QaR m c).2.1 (QaR m c).2.2)
theorem jC : GS.propose = Qji := by funext G i c; unfold GS.propose Qji; rw [QlY]; try rfl
def Qdk (G : GS) (k : Nat) : GS := (List.range k).foldl Qfp G
theorem Qkx : GS.ticks = Qdk := by funext G k; unfold GS.ticks Qdk; rw [Qma]
def QcG (G : GS) : Nat → GS
 | 0 => G
 | k + 1 => if G.st.length > 0 then QcG (Qej G 0) k else G
theorem Qd5 (G : GS) : ∀ k, G.dels (k + 1) = G.del1.dels k
 | 0 => rfl
 | k + 1 => by
  show (G.dels (k + 1)).del1 = (G.del1.dels k).del1
  rw [Qd5 G k]
theorem QgY : ∀ (k : Nat) (G : GS), G.dels k = QcG G k
 | 0, G => rfl
 | k + 1, G => by
  unfold QcG
  split
  ·rename_i h
   rw [Qd5, QgY k, show G.del1 = Qej G 0 by unfold GS.del1; rw [if_pos h, Qna]]
  ·rename_i h
   rw [Qcb (k := 0) (by omega) (by show G.st.length = 0; omega)]
   rfl
def Qbl (G : GS) (n : Nat) : GS := QcG (Qdk G n) 200
theorem Qky : GS.round = Qbl := by funext G n; unfold GS.round Qbl; rw [Qkx, QgY]
def Qb6 (G : GS) (n : Nat) : Nat → GS
 | 0 => G
 | k + 1 => Qbl (Qb6 G n k) n
theorem Zj : ∀ (k : Nat) (G : GS) (n : Nat), G.rounds n k = Qb6 G n k
 | 0, _, _ => rfl
 | k + 1, G, n => by show (G.rounds n k).round n = Qbl (Qb6 G n k) n; rw [Zj k, Qky]
theorem Qn8 : AwOK 1 where
 l1 := by rw [Zj]; decide +kernel
 p := by rw [Zj, jC]; decide +kernel
 t0 := by decide
 l2 := by rw [Zj, Zj, jC]; decide +kernel
 o := by rw [Zj, Zj, jC]; decide +kernel
 d := fun m hm => by
  have h : (((((GS.new 3).rounds 3 60).propose 0 [97]).2.rounds 3 10).ms[0]?).map (fun m => m.l.length) = some 1 := by rw [Zj, Zj, jC]; decide +kernel
  rw [hm] at h; simpa using h
 a := fun m hm => by
  have h : (((((GS.new 3).rounds 3 60).propose 0 [97]).2.rounds 3 10).ms[1]?).map (fun m => m.ap) = some 2 := by rw [Zj, Zj, jC]; decide +kernel
  rw [hm] at h; simpa using h
end V
end Go.Proofs.YtenfjpigffjgmaaGreat
namespace Go.Proofs.YtenfjpigffjgmaaGreat
open Go.ChangeShapes Go.WideShapes Go.ChangeAt Go.RowKit
open V
set_option maxHeartbeats 1000000 in
set_option maxRecDepth 100000 in
theorem GroupSafe_holds_lifted (os : Os) (started : os.Started) (H : Type) (enc : TypeId × Value → H) :
  ReturnsInHanded {} Tryz.checked os 8 .any (Rows.groupSafeSpec.pre6 enc Tryz.prog Tryz.f8 Rows.groupSafeRow.domain false) (Rows.groupSafeSpec.post enc Tryz.prog Tryz.f8 false true false false) := by
 refine returnsInHanded_of_change (C := Tryz.checked) own started (by kernel_rfl) Tryz.func8
  (ChangeSpec.witness6 (enc := enc) (C := Tryz.checked) false ⟨#[], #[.int .i64 0, .slice none 0 0], []⟩ 8 (by kernel_rfl) (by kernel_rfl) (by kernel_rfl) (by kernel_rfl)) ?_
 intro W base args ds gs before hval0 hW hcnd _
 have hval : ∀ (j : Nat) t v, Tryz.f8.params[j]? = some t → args[j]? = some v → Value.okWide Tryz.prog W .any base t v := hval0
 have hW' := hW
 obtain ⟨p, q, hA0, hV, rfl, hfz, hnd⟩ := hW
 have hA : DataW.TrodAll enc Tryz.prog W 0 (fun _ => true) true Tryz.f8.params.toList args.toList ds p := hA0
 rw [Tryz.params8] at hA hval
 obtain ⟨v0, vs0, d0, ds0, p0, q0, hargs, rfl, rfl, t0, r0⟩ := trodAll_cons hA
 obtain ⟨v1, vs1, d1, ds1, p1, q1, rfl, rfl, rfl, t1, r1⟩ := trodAll_cons r0
 obtain ⟨rfl, rfl, rfl⟩ := trodAll_nil r1
 obtain rfl : args = #[v0, v1] := by cases args; simp_all
 obtain ⟨rfl, rfl⟩ := trodVars_none hV
 have lt0 : ∀ x ∈ p0, x.block < W.heap.size := by obtain ⟨m, hm⟩ := t0; exact DataW.trod_lt m _ _ _ hm
 obtain ⟨y0, h0⟩ : ∃ y, (zE .i64) (zw W) v0.cells.toList y := by obtain ⟨m, hm⟩ := t0; exact (zX Tryz.underlying3) W m _ _ hm
 obtain ⟨n0, rfl⟩ := okWide_int Tryz.underlying3 (hval 0 3 v0 rfl rfl)
 obtain ⟨e0, h0⟩ := h0
 obtain rfl : y0 = n0 := by have := e0; simp [Value.cells] at this; exact this.symm
 have lt1 : ∀ x ∈ p1, x.block < W.heap.size := by obtain ⟨m, hm⟩ := t1; exact DataW.trod_lt m _ _ _ hm
 obtain ⟨y1, h1⟩ : ∃ y, (Qc1 4 (yN 1 (zE .i64) (yN 1 (zE .i64) (yN 1 (zE .i64) Qhs)))) (zw W) v1.cells.toList y := by obtain ⟨m, hm⟩ := t1; exact (QiP Tryz.underlying23 (by kernel_rfl) (by decide) (Qe1 Tryz.underlying53 (by kernel_rfl) (jf rfl (by kernel_rfl) (zX Tryz.underlying3) (jf rfl (by kernel_rfl) (zX Tryz.underlying3) (jf rfl (by kernel_rfl) (zX Tryz.underlying3) (QhK rfl (QiO Tryz.underlying9))))))) W m _ _ hm
 obtain ⟨a1, len1, cap1, rfl⟩ := okWide_slice Tryz.underlying23 (hval 1 23 v1 rfl rfl)
 obtain ⟨v1, hv1⟩ : ∃ v, v = Value.slice a1 len1 cap1 := ⟨_, rfl⟩
 replace h1 : (Qc1 4 (yN 1 (zE .i64) (yN 1 (zE .i64) (yN 1 (zE .i64) Qhs)))) (zw W) [v1] y1 := by rw [hv1]; exact h1
 clear hA0 hval0
 subst hv1
 refine (Qi7 (Qga (c3 := 10000) (d3 := 1000) (bud 3) ((bud 3).leq (by omega) (by omega) (GJ.new (by decide))) 1 Qn8 bud (SS := SW) (fun n hn => QmZ (by omega)) (c := 80000) (d := 0) (fun n hn => by omega) (fun n hn => (bud n).leq (by omega) (by omega) (GJ.new (by omega))) _ _ y1 h1)).mono fun e W' ⟨he, bel⟩ => ?_
 subst he
 exact ⟨_, rfl, _, _, _, [], _, [], hW', trodAll_mk1 (shut_bool Tryz.underlying4 _), (trodAll_cons_mk (Below.trod QgR (by kernel_rfl) (of_decide_eq_true (by kernel_rfl)) t0 bel lt0) (trodAll_cons_mk (Below.trod QgR (by kernel_rfl) (of_decide_eq_true (by kernel_rfl)) t1 bel lt1) trodAll_mk0)), rfl, bel.frame _, fun h => by cases h⟩
theorem GroupSafe_holds : Rows.GroupSafeSaid :=
 OpenClaim.holds_of_wide 8 Tryz.f8 rfl rfl rfl rfl rfl rfl rfl ⟨rfl, rfl, rfl, rfl, rfl⟩ rfl rfl rfl rfl rfl (by kernel_rfl) Tryz.func8 (by kernel_rfl)
  (of_decide_eq_true (by kernel_rfl)) (by unfold Func.isWrapper; first | (rw [if_pos (by decide +kernel)]; kernel_rfl) | (rw [if_neg (by decide +kernel)]; exact ⟨rfl, rfl⟩))
  (fun os started H enc _ => GroupSafe_holds_lifted os started H enc)
#print axioms GroupSafe_holds
end Go.Proofs.YtenfjpigffjgmaaGreat
