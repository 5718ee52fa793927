/- Parts: T3a T8l. -/
import Derived.Test.YtenfjpigffjgmaaGreatWL11Outcomes0
import Derived.Test.YtenfjpigffjgmaaGreatProg
import Derived.KernelRfl
import Derived.Defers
import Derived.Recover
import Derived.Laws.StructEq
set_option linter.unusedSimpArgs false
set_option linter.unusedVariables false
set_option maxRecDepth 100000
namespace Go.Proofs.YtenfjpigffjgmaaGreat
open Go.RowKit
open Go.Proofs.Tryz
namespace V
def big : Nat := 1000000000000
inductive RepN (R : Hp) : Nd → List Value → Prop
 | mk {k : Int} {n : Nat} {s : List UInt8} {l : List Nd} {q : Option Addr} {cap : Nat} (css : List (List Value)) : s.length ≤ big → l.length ≤ big → css.length = l.length → l.length ≤ cap → cap ≤ maxLen →
   (∀ (i : Nat) (x : Nd) (cs : List Value), l[i]? = some x → css[i]? = some cs → cs.length = 4) → (∀ (i : Nat) (x : Nd) (cs : List Value), l[i]? = some x → css[i]? = some cs → RepN R x cs) →
   (l = [] ∨ ∃ b off, q = some ⟨b, off, none⟩ ∧ ∀ (i : Nat) (cs : List Value) (j : Nat) (u : Value), css[i]? = some cs → cs[j]? = some u → Hp.cell R ⟨b, off + i * 4 + j, none⟩ = some u) →
   RepN R (.mk k n s l) [.int .i64 k, .int .u64 (n : Int), .string (str s), .slice q l.length cap]
def RepL (R : Hp) (l : List Nd) (q : Option Addr) (cap : Nat) : Prop := ∃ css : List (List Value), l.length ≤ big ∧ css.length = l.length ∧ l.length ≤ cap ∧ cap ≤ maxLen ∧
 (∀ (i : Nat) (x : Nd) (cs : List Value), l[i]? = some x → css[i]? = some cs → cs.length = 4) ∧ (∀ (i : Nat) (x : Nd) (cs : List Value), l[i]? = some x → css[i]? = some cs → RepN R x cs) ∧
 (l = [] ∨ ∃ b off, q = some ⟨b, off, none⟩ ∧ ∀ (i : Nat) (cs : List Value) (j : Nat) (u : Value), css[i]? = some cs → cs[j]? = some u → Hp.cell R ⟨b, off + i * 4 + j, none⟩ = some u)
theorem RepN.mono {R R' : Hp} (hR : R.le R') {x : Nd} {cs : List Value} (h : RepN R x cs) : RepN R' x cs := by
 induction h with
 | mk css h1 h2 h3 h4 h5 h6 _ h8 ih =>
  refine .mk css h1 h2 h3 h4 h5 h6 ih ?_
  rcases h8 with h | ⟨b, off, hq, hc⟩
  ·exact .inl h
  ·exact .inr ⟨b, off, hq, fun i cs j u hi hj => by
    have e := hc i cs j u hi hj
    unfold Hp.cell at *
    cases hb : R b with
    | none => simp [hb] at e
    | some o => simp only [hb] at e; simp only [hR _ _ hb]; exact e⟩
theorem RepN.inv {R : Hp} {x : Nd} {cs : List Value} (h : RepN R x cs) : ∃ k n s l q cap, x = .mk k n s l ∧ cs = [.int .i64 k, .int .u64 ((n : Nat) : Int), .string (str s), .slice q l.length cap] ∧ s.length ≤ big ∧ RepL R l q cap := by
 cases h with
 | mk css h1 h2 h3 h4 h5 h6 h7 h8 => exact ⟨_, _, _, _, _, _, rfl, rfl, h1, css, h2, h3, h4, h5, h6, h7, h8⟩
theorem RepL.node {R : Hp} {k : Int} {n : Nat} {s : List UInt8} {l : List Nd} {q : Option Addr} {cap : Nat} (hs : s.length ≤ big) (h : RepL R l q cap) : RepN R (.mk k n s l) [.int .i64 k, .int .u64 (n : Int), .string (str s), .slice q l.length cap] := by
 obtain ⟨css, h2, h3, h4, h5, h6, h7, h8⟩ := h
 exact .mk css hs h2 h3 h4 h5 h6 h7 h8
theorem RepL.nil (R : Hp) : RepL R [] none 0 := ⟨[], by simp, rfl, by simp, by simp [maxLen], by simp, by simp, .inl rfl⟩
theorem RepL.at {R : Hp} {l : List Nd} {q : Option Addr} {cap : Nat} (h : RepL R l q cap) {i : Nat} {x : Nd} (hx : l[i]? = some x) : ∃ b off cs, q = some ⟨b, off, none⟩ ∧ cs.length = 4 ∧ RepN R x cs ∧ ∀ (j : Nat) u, cs[j]? = some u → Hp.cell R ⟨b, off + i * 4 + j, none⟩ = some u := by
 obtain ⟨css, h2, h3, h4, h5, h6, h7, h8⟩ := h
 have hi : i < l.length := (List.getElem?_eq_some_iff.1 hx).1
 have hc : css[i]? = some (css[i]'(by omega)) := by simp [h3, hi]
 rcases h8 with rfl | ⟨b, off, hq, hcell⟩
 ·simp at hi
 ·exact ⟨b, off, css[i]'(by omega), hq, h6 i x _ hx hc, h7 i x _ hx hc, fun j u hj => hcell i _ j u hc hj⟩
set_option maxHeartbeats 1000000
theorem Zc (l : List Nd) : decide (l = []) = l.isEmpty := by cases l <;> rfl
theorem yO (l : List Nd) (f : Nd → Bool) : (l.any fun y => !f y) = !l.all f := by rw [List.all_eq_not_any_not, Bool.not_not]
theorem QjR {R : Hp} (e bd : Nat) (y : Nd) (cy : List Value) (h : RepN R y cy) (he : e ≤ 20) (hr : QTri prog 145 [.agg ⟨cy⟩, .int .i64 (e : Int)] R [] (.bool (Xf e y))) :
  QTri prog 151 [.agg ⟨cy⟩, .pointer (some ⟨bd, 0, none⟩)] R [blk bd [.int .i64 ((e + 1 : Nat) : Int)] 3] (.bool (!Xf e y)) := by
 obtain ⟨k, n, s, l, q, cap, rfl, rfl, hs, hl⟩ := h.inv
 refine Tri.q ?_
 refine Qn func151 rfl ntmps151 rfl (fun σ F Q hret hend hpan => ?_)
 try simp only [cB]
 refine Qd fun K1 hK1 => Qc ?_
 refine Xa (wn0 rfl) rfl rfl rfl (fun b2 => ?_)
 refine Ps (Qe (hK1 _ _ _ (Qd fun K2 hK2 => Qc ?_)))
 refine Pa (Lb Qw) ?_
 refine Pa (La o3) ?_
 refine Pa (YN rfl rfl om_) ?_
 refine Xg 6 rfl (v' := .int .i64 (e : Int)) (by congr 1; omega) ?_
 refine Pa (Ca call145 (hr)) ?_
 refine Pa (Yq rfl) (Ps (Qe (hK2 _ _ _ (Qi (hret _ _ _ ?_)))))
 refine Ea results151 (.cons (Qh rfl) .nil) [blk bd [.int .i64 ((e + 1 : Nat) : Int)] 3] le_ ?_
 exact ⟨rfl, rfl, rfl⟩
theorem Qf5 {R : Hp} (l : List Nd) (q : Option Addr) (cap : Nat) (hl : RepL R l q cap) (bd : Nat) (D : Asn) (p : Nd → Bool)
  (hcall : ∀ x cs, x ∈ l → RepN R x cs → QTri prog 151 [.agg ⟨cs⟩, .pointer (some ⟨bd, 0, none⟩)] R [D] (.bool (p x))) :
  Tri prog 153 [.slice q l.length cap, .func (.func 151) ⟨[]⟩ ⟨[.pointer (some ⟨bd, 0, none⟩)]⟩] R [D]
   (fun v R' L' => R = R' ∧ (∃ z : Int, v = .int .i64 z ∧ (z ≥ 0 ↔ l.any p = true)) ∧ L' = [D]) := by
 have hlb : l.length ≤ big := hl.choose_spec.1
 unfold big at hlb
 refine Qn func153 rfl ntmps153 rfl (fun σ F Q hret hend hpan => ?_)
 try simp only [cB]
 refine Qd fun K1 hK1 => Qc (Ps (Qe (hK1 _ _ _ (Qd fun K2 hK2 => Qd fun K3 hK3 => Qc ?_))))
 refine Pm ?_
 refine Pa (QR underlying148 rfl) (Pm (Qe (hK3 _ _ _ (Qp ?_))))
 refine Ql (E' := (fun (x : Nat) => [(0, .slice q l.length cap), (1, .func (.func 151) ⟨[]⟩ ⟨[.pointer (some ⟨bd, 0, none⟩)]⟩), (7, .int .i64 (l.length : Int)), (8, .int .i64 (x : Int))]) 0) (eC rfl (eC rfl (eC rfl (eC rfl eN)))) ?_
 refine Xi (M := (fun (x : Nat) => D :: F) 0) sb_ ?_
 refine QY (fun (x : Nat) => [(0, .slice q l.length cap), (1, .func (.func 151) ⟨[]⟩ ⟨[.pointer (some ⟨bd, 0, none⟩)]⟩), (7, .int .i64 (l.length : Int)), (8, .int .i64 (x : Int))]) (fun (x : Nat) => R) (fun (x : Nat) => D :: F) (fun (x : Nat) => x ≤ l.length ∧ (l.take x).any p = false) (fun (x : Nat) => l.length - x) 0 (⟨by simp, by simp⟩) ?_
 rintro i ⟨hi, hall⟩
 try dsimp only
 refine Qd fun K4 hK4 => Qc ?_
 refine Pa (QO rfl rfl) (Qe (hK4 _ _ _ (Qd fun K5 hK5 => ?_)))
 refine Qm rfl (fun hc9 => ?_) (fun hc9 => ?_)
 try simp only [dx] at hc9
 refine Qj (hK5 _ _ _ (Qd fun K7 hK7 => Qp (Qd fun K8 hK8 => Qc ?_)))
 obtain ⟨x, hx⟩ : ∃ x, l[i]? = some x := ⟨l[i]'(by omega), by simp⟩
 obtain ⟨b, off, cs, rfl, hc4, hrep, hcell⟩ := hl.at hx
 refine Pm (Ps (Qe (hK8 _ _ _ (Qd fun K9 hK9 => Qc ?_))))
 refine Pm (Pm (Pm ?_))
 refine Pa (Qy underlying148 sizeOf150 rfl rfl om_) ?_
 refine Pa ((XT Qw (vs := cs) hc4 rfl (fun j u hj => by simpa using hcell j u hj))) ?_
 refine Pa (Qgc rfl call151 rfl (hcall x cs (List.mem_of_getElem? hx) hrep) sp_) (Qe (hK9 _ _ _ ?_))
 refine Qm rfl (fun hc16 => ?_) (fun hc16 => ?_)
 try simp only [dx] at hc16
 refine Qd fun K11 hK11 => Qc (Pm (Ps (Qe (hK11 _ _ _ (Qi (hret _ _ _ ?_))))))
 refine Ea results153 (.cons (Qh rfl) .nil) [D] le_ ?_
 refine ⟨rfl, ⟨_, rfl, ?_⟩, rfl⟩; simp; exact ⟨x, List.mem_of_getElem? hx, hc16⟩
 try simp only [dx] at hc16
 refine Qj (hK7 _ _ _ (Qc ?_))
 refine Pa (Qt rfl rfl om_) (Pm (Qe ?_))
 refine Xl (q' := QS _ _ _ _ _ _ _) rfl ?_
 refine QC (i + 1) (⟨by omega, by rw [List.take_add_one, hx]; simp [hall, hc16]⟩) (by omega) (eC rfl (eC rfl (eC rfl (eC rfl eN)))) rfl sb_
 try simp only [dx] at hc9
 refine QL (hK2 _ _ _ ?_)
 refine Ql eN ?_
 refine Qd fun K12 hK12 => Qc (Ps (Qe (hK12 _ _ _ (Qi (hret _ _ _ ?_)))))
 refine Ea results153 (.cons (Qh rfl) .nil) [D] le_ ?_
 refine ⟨rfl, ⟨_, rfl, ?_⟩, rfl⟩; rw [List.take_of_length_le (by omega)] at hall; rw [hall]; simp
theorem Qdm {R : Hp} (l : List Nd) (q : Option Addr) (cap : Nat) (hl : RepL R l q cap) (bd : Nat) (D : Asn) (p : Nd → Bool)
  (hcall : ∀ x cs, x ∈ l → RepN R x cs → QTri prog 151 [.agg ⟨cs⟩, .pointer (some ⟨bd, 0, none⟩)] R [D] (.bool (p x))) :
  Tri prog 150 [.slice q l.length cap, .func (.func 151) ⟨[]⟩ ⟨[.pointer (some ⟨bd, 0, none⟩)]⟩] R [D]
   (fun v R' L' => R = R' ∧ v = .bool (l.any p) ∧ L' = [D]) := by
 refine Qn func150 rfl ntmps150 rfl (fun σ F Q hret hend hpan => ?_)
 try simp only [cB]
 refine Qd fun K1 hK1 => Qc (Ps (Qe (hK1 _ _ _ (Qd fun K2 hK2 => Qc ?_))))
 refine Pm (Pm ?_)
 refine Ra call153 (Qf5 l q cap hl bd D p hcall) ?_
 rintro v R' L' hR ⟨rfl, ⟨z, rfl, hz⟩, rfl⟩
 try simp only [cB]
 refine Pa (YX rfl rfl) ?_
 refine Xg 8 rfl (v' := .bool (l.any p)) (by congr 1; rw [Bool.eq_iff_iff]; simpa using hz) ?_
 refine Ps (Qe (hK2 _ _ _ (Qi (hret _ _ _ ?_))))
 refine Ea results150 (.cons (Qh rfl) .nil) [D] le_ ?_
 exact ⟨rfl, rfl, rfl⟩
theorem QlC (d : Nat) : ∀ (x : Nd) (cs : List Value) {R : Hp}, RepN R x cs → d ≤ 20 → QTri prog 145 [.agg ⟨cs⟩, .int .i64 (d : Int)] R [] (.bool (Xf d x)) := by
 induction d using Nat.strongRecOn with
 | _ d ih =>
 intro x cs R h hd
 obtain ⟨k, n, s, l, q, cap, rfl, rfl, hs, hl⟩ := h.inv
 refine Tri.q ?_
 refine Qn func145 rfl ntmps145 rfl (fun σ F Q hret hend hpan => ?_)
 try simp only [cB]
 refine Qd fun K1 hK1 => Qc ?_
 refine Xa (wn0 rfl) rfl rfl rfl (fun b2 => ?_)
 refine Xa (wn0 rfl) rfl rfl rfl (fun bd => ?_)
 refine Ps (Qe (hK1 _ _ _ (Qd fun K2 hK2 => Qd fun K3 hK3 => Qc ?_)))
 refine Pa (La o3) ?_
 refine Pa (QB rfl rfl) (Qe (hK3 _ _ _ ?_))
 refine Qm rfl (fun hc6 => ?_) (fun hc6 => ?_)
 try simp only [dx] at hc6
 refine Qd fun K5 hK5 => Qc (Ps (Qe (hK5 _ _ _ (Qi (hret _ _ _ ?_)))))
 refine Ea results145 (.cons (Qh rfl) .nil) [] le_ ?_
 refine ⟨?_, rfl, rfl⟩; obtain rfl : d = 0 := by omega
 simp [Xf, QF]
 (try simp only [dx] at hc6); obtain ⟨e, rfl⟩ : ∃ e, d = e + 1 := ⟨d - 1, by omega⟩
 refine Qj (hK2 _ _ _ (Qd fun K6 hK6 => Qd fun K7 hK7 => Qc ?_))
 refine Pa (Ga underlying150 sizeOf3) ?_
 refine Pa (La o3) (Qe (hK7 _ _ _ (Qp (Qd fun K8 hK8 => Qc ?_))))
 refine Pa (QB rfl rfl) (Ps (Qe (hK8 _ _ _ ?_)))
 refine Qm rfl (fun hc9 => ?_) (fun hc9 => ?_)
 try simp only [dx] at hc9
 refine Qd fun K10 hK10 => Qc ?_
 refine Pa (Ga underlying150 sizeOf9) ?_
 refine Pa (La o9) ?_
 refine Pa (jq rfl rfl) (Pm ?_)
 refine QE 14 rfl (fun hg14 => ?_) (fun hg14 => ?_)
 try simp only [dx] at hg14
 refine Pb (Ga underlying150 sizeOf148) ?_
 refine Pb (La Ys) ?_
 refine Pb (QR underlying148 rfl) ?_
 refine Pb (QB rfl rfl) ?_
 refine Pa (Qr rfl rfl) (Ps (Qe (hK10 _ _ _ ?_)))
 refine Ql (eL 4 rfl eN) ?_
 refine Qi (hret _ _ _ ?_)
 refine Ea results145 (.cons (Qh rfl) .nil) [] le_ ?_
 refine ⟨?_, rfl, rfl⟩; simp_all [Xf, QF] <;> first | exact Zc _ | exact yO _ _
 try simp only [dx] at hg14
 refine Pk (Pk (Pk (Pk ?_)))
 refine Pa (Qo rfl rfl) (Ps (Qe (hK10 _ _ _ (Qi (hret _ _ _ ?_)))))
 refine Ea results145 (.cons (Qh rfl) .nil) [] le_ ?_
 refine ⟨?_, rfl, rfl⟩; simp_all [Xf, QF] <;> first | exact Zc _ | exact yO _ _
 try simp only [dx] at hc9
 refine Qd fun K11 hK11 => Qc ?_
 refine Pa (QB rfl rfl) (Ps (Qe (hK11 _ _ _ ?_)))
 refine Qm rfl (fun hc20 => ?_) (fun hc20 => ?_)
 try simp only [dx] at hc20
 refine Qd fun K13 hK13 => Qc ?_
 refine Pa (Ga underlying150 sizeOf36) ?_
 refine Pa (La o36) ?_
 refine Pa (QB rfl rfl) (Pm ?_)
 refine QE 25 rfl (fun hg25 => ?_) (fun hg25 => ?_)
 try simp only [dx] at hg25
 refine Pb (Ga underlying150 sizeOf148) ?_
 refine Pb (La Ys) ?_
 refine Pb (QR underlying148 rfl) ?_
 refine Pb (QB rfl rfl) ?_
 refine Pa (Qr rfl rfl) (Ps (Qe (hK13 _ _ _ ?_)))
 refine Ql (eL 4 rfl eN) ?_
 refine Qi (hret _ _ _ ?_)
 refine Ea results145 (.cons (Qh rfl) .nil) [] le_ ?_
 refine ⟨?_, rfl, rfl⟩; simp_all [Xf, QF] <;> first | exact Zc _ | exact yO _ _
 try simp only [dx] at hg25
 refine Pk (Pk (Pk (Pk ?_)))
 refine Pa (Qo rfl rfl) (Ps (Qe (hK13 _ _ _ (Qi (hret _ _ _ ?_)))))
 refine Ea results145 (.cons (Qh rfl) .nil) [] le_ ?_
 refine ⟨?_, rfl, rfl⟩; simp_all [Xf, QF] <;> first | exact Zc _ | exact yO _ _
 try simp only [dx] at hc20
 refine Qd fun K14 hK14 => Qc ?_
 refine Pa (QB rfl rfl) (Ps (Qe (hK14 _ _ _ ?_)))
 refine Qm rfl (fun hc31 => ?_) (fun hc31 => ?_)
 try simp only [dx] at hc31
 refine Qd fun K16 hK16 => Qc ?_
 refine Pa (Ga underlying150 sizeOf36) ?_
 refine Pa (La o36) ?_
 refine Pa (QB rfl rfl) (Pm ?_)
 refine QE 36 rfl (fun hg36 => ?_) (fun hg36 => ?_)
 try simp only [dx] at hg36
 refine Pb (Ga underlying150 sizeOf9) ?_
 refine Pb (La o9) ?_
 refine Pb (jq rfl rfl) ?_
 refine Pa (Qr rfl rfl) (Pm ?_)
 refine QE 41 rfl (fun hg41 => ?_) (fun hg41 => ?_)
 try simp only [dx] at hg41
 refine Pb (Ga underlying150 sizeOf148) ?_
 refine Pb (La Ys) ?_
 refine Pb (YB rfl rfl) ?_
 refine XE (wn1 rfl rfl rfl rfl) rfl call150 rfl (Qdm l q cap hl bd (blk bd [.int .i64 ((e + 1 : Nat) : Int)] 3) (fun y => !Xf e y) (fun y cy hy hry => QjR e bd y cy hry (by omega) (ih e (by omega) y cy hry (by omega)))) sp_ (fun _ _ _ _ h => h.elim) ?_
 rintro v R' L' hR ⟨rfl, rfl, rfl⟩
 try simp only [cB]
 refine Pb (Yq rfl) ?_
 refine Pa (Qr rfl rfl) (Ps (Qe (hK16 _ _ _ ?_)))
 refine Ql (eL 4 rfl eN) ?_
 refine Qi (hret _ _ _ ?_)
 refine Ea results145 (.cons (Qh rfl) .nil) [] le_ ?_
 refine ⟨?_, rfl, rfl⟩; simp_all [Xf, QF] <;> first | exact Zc _ | exact yO _ _
 try simp only [dx] at hg41
 refine Pk (Pk (Pk (Pk (Pk ?_))))
 refine Pa (Qo rfl rfl) (Ps (Qe (hK16 _ _ _ (Qi (hret _ _ _ ?_)))))
 refine Ea results145 (.cons (Qh rfl) .nil) [] le_ ?_
 refine ⟨?_, rfl, rfl⟩; simp_all [Xf, QF] <;> first | exact Zc _ | exact yO _ _
 try simp only [dx] at hg36
 refine Pk (Pk (Pk ?_))
 refine Pa (Qo rfl rfl) (Pm (Pk (Pk (Pk (Pk (Pk ?_))))))
 refine Pa (Qo rfl rfl) (Ps (Qe (hK16 _ _ _ ?_)))
 refine Ql (eL 4 rfl eN) ?_
 refine Qi (hret _ _ _ ?_)
 refine Ea results145 (.cons (Qh rfl) .nil) [] le_ ?_
 refine ⟨?_, rfl, rfl⟩; simp_all [Xf, QF] <;> first | exact Zc _ | exact yO _ _
 try simp only [dx] at hc31
 refine Qj (hK6 _ _ _ ?_)
 refine Ql eN ?_
 refine Qd fun K17 hK17 => Qc (Ps (Qe (hK17 _ _ _ (Qi (hret _ _ _ ?_)))))
 refine Ea results145 (.cons (Qh rfl) .nil) [] le_ ?_
 refine ⟨?_, rfl, rfl⟩; simp_all [Xf, QF] <;> first | exact Zc _ | exact yO _ _
set_option maxHeartbeats 1000000
theorem ZO {R : Hp} (n : Int) : QTri prog 95 [.int .u64 n] R [] (.agg ⟨[.int .i64 0, .int .u64 n, .string (str []), .slice none 0 0]⟩) := by
 refine Tri.q ?_
 refine Qn func95 rfl ntmps95 rfl (fun σ F Q hret hend hpan => ?_)
 try simp only [cB]
 refine Qd fun K1 hK1 => Qc ?_
 refine QA (wn0 rfl) rfl zeroValue150 rfl (fun b2 => ?_)
 refine Qe (hK1 _ _ _ (Qd fun K2 hK2 => Qc (Pm ?_)))
 refine Pa (QV (cells := [_, _, _, _]) [(0, 1), (1, 1), (2, 1), (3, 1)] underlying150 zeroValue150 (fun _ => rfl) rfl rfl) ?_
 refine Qu Qw rfl (wn0 rfl) rfl rfl (by (first | (simp [Value.oneCell']; done) | (intro u hu; simp only [List.mem_cons, List.not_mem_nil, or_false] at hu; rcases hu with rfl | rfl | rfl | rfl <;> first | rfl | assumption))) fd_ (by (simp)) rfl ?_
 refine Qe (hK2 _ _ _ (Qi (hret _ _ _ ?_)))
 refine Ea results95 (.cons (QN Qw rfl fd_ rfl rfl) .nil) [] le_ ?_
 exact ⟨rfl, rfl, rfl⟩
theorem Qe1 {R : Hp} (s : List UInt8) : QTri prog 114 [.string (str s)] R [] (.agg ⟨[.int .i64 1, .int .u64 0, .string (str s), .slice none 0 0]⟩) := by
 refine Tri.q ?_
 refine Qn func114 rfl ntmps114 rfl (fun σ F Q hret hend hpan => ?_)
 try simp only [cB]
 refine Qd fun K1 hK1 => Qc ?_
 refine QA (wn0 rfl) rfl zeroValue150 rfl (fun b2 => ?_)
 refine Qe (hK1 _ _ _ (Qd fun K2 hK2 => Qc (Pm ?_)))
 refine Pa (QV (cells := [_, _, _, _]) [(0, 1), (1, 1), (2, 1), (3, 1)] underlying150 zeroValue150 (fun _ => rfl) rfl rfl) ?_
 refine Qu Qw rfl (wn0 rfl) rfl rfl (by (first | (simp [Value.oneCell']; done) | (intro u hu; simp only [List.mem_cons, List.not_mem_nil, or_false] at hu; rcases hu with rfl | rfl | rfl | rfl <;> first | rfl | assumption))) fd_ (by (simp)) rfl ?_
 refine Qe (hK2 _ _ _ (Qi (hret _ _ _ ?_)))
 refine Ea results114 (.cons (QN Qw rfl fd_ rfl rfl) .nil) [] le_ ?_
 exact ⟨rfl, rfl, rfl⟩
theorem Qi3 {R : Hp} (x : Nd) (cs : List Value) (h : RepN R x cs) : QTri prog 135 [.agg ⟨cs⟩] R [] (.bool (Xf 20 x)) := by
 obtain ⟨k, n, s, l, q, cap, rfl, rfl, hs, hl⟩ := h.inv
 refine Tri.q ?_
 refine Qn func135 rfl ntmps135 rfl (fun σ F Q hret hend hpan => ?_)
 try simp only [cB]
 refine Qd fun K1 hK1 => Qc ?_
 refine Xa (wn0 rfl) rfl rfl rfl (fun b1 => ?_)
 refine Ps (Qe (hK1 _ _ _ (Qd fun K2 hK2 => Qc ?_)))
 refine Pa (Lb Qw) ?_
 refine Pa (Ca call145 (QlC 20 _ _ h (by omega))) ?_
 refine Ps (Qe (hK2 _ _ _ (Qi (hret _ _ _ ?_))))
 refine Ea results135 (.cons (Qh rfl) .nil) [] le_ ?_
 exact ⟨rfl, rfl, rfl⟩
theorem Qnn (N : Nat) : ∀ (x : Nd) (cx : List Value) {R : Hp}, SizeOf.sizeOf x ≤ N → RepN R x cx → ZD x ≤ big → QTri prog 181 [.agg ⟨cx⟩] R [] (.int .i64 (ZD x : Int)) := by
 induction N using Nat.strongRecOn with
 | _ N ih =>
 intro x cx R hN hx hd
 obtain ⟨k1, n1, s1, l, q, cap, rfl, rfl, hs1, hl⟩ := hx.inv
 have hlb : l.length ≤ big := hl.choose_spec.1
 rw [ZD] at hd
 have hdl := deepL_le.1 (Nat.le_of_succ_le hd)
 unfold big at hlb hd hdl
 refine Tri.q ?_
 refine Qn func181 rfl ntmps181 rfl (fun σ F Q hret hend hpan => ?_)
 try simp only [cB]
 refine Qd fun K1 hK1 => Qc ?_
 refine Xa (wn0 rfl) rfl rfl rfl (fun b1 => ?_)
 refine Ps (Qe (hK1 _ _ _ (Qd fun K2 hK2 => Qc ?_)))
 refine Ps (Qe (hK2 _ _ _ (Qd fun K3 hK3 => Qd fun K4 hK4 => Qc ?_)))
 refine Ps (Qe (hK4 _ _ _ (Qp ?_)))
 refine Ql (E' := (fun (x : Nat) => [(1, .pointer (some ⟨b1, 0, none⟩)), (3, .int .i64 (Zg (l.take x) : Int)), (4, .int .i64 (x : Int))]) 0) (eC rfl (eC rfl (eC rfl eN))) ?_
 refine Xi (M := (fun (x : Nat) => blk b1 [.int .i64 k1, .int .u64 ((n1 : Nat) : Int), .string (str s1), .slice q l.length cap] 150 :: F) 0) sb_ ?_
 refine QY (fun (x : Nat) => [(1, .pointer (some ⟨b1, 0, none⟩)), (3, .int .i64 (Zg (l.take x) : Int)), (4, .int .i64 (x : Int))]) (fun (x : Nat) => R) (fun (x : Nat) => blk b1 [.int .i64 k1, .int .u64 ((n1 : Nat) : Int), .string (str s1), .slice q l.length cap] 150 :: F) (fun (x : Nat) => x ≤ l.length) (fun (x : Nat) => l.length - x) 0 (by simp) ?_
 rintro i hI3
 try dsimp only
 refine Qd fun K5 hK5 => Qd fun K6 hK6 => Qc (Pm ?_)
 refine Pa (Ga underlying150 sizeOf148) ?_
 refine Pa (La Ys) ?_
 refine Pa (QR underlying148 rfl) ?_
 refine Pa (QO rfl rfl) (Qe (hK6 _ _ _ ?_))
 refine Qm rfl (fun hc9 => ?_) (fun hc9 => ?_)
 try simp only [dx] at hc9
 refine Qj (hK5 _ _ _ (Qd fun K8 hK8 => Qp (Qc ?_)))
 obtain ⟨x1, hx1⟩ : ∃ x, l[i]? = some x := ⟨l[i]'(by omega), by simp⟩
 obtain ⟨b, off, cs, rfl, hc4, hrep, hcell⟩ := hl.at hx1
 refine Pm ?_
 refine Pa (Ga underlying150 sizeOf148) ?_
 refine Pa (La Ys) (Pm ?_)
 refine Pa (Qy underlying148 sizeOf150 rfl rfl om_) ?_
 refine Pa ((XT Qw hc4 rfl (fun j u hj => by simpa using hcell j u hj))) ?_
 refine Pa (Ca call181 (ih (SizeOf.sizeOf x1) (by have := List.sizeOf_lt_of_mem (List.mem_of_getElem? hx1); simp at hN; omega) x1 cs (Nat.le_refl _) hrep (by have := hdl x1 (List.mem_of_getElem? hx1); unfold big; omega))) ?_
 refine Pa (jN rfl rfl) ?_
 refine Xg 19 rfl (v' := .int .i64 (Zg (l.take (i + 1)) : Int)) (by rw [Qh0 hx1]; congr 1; omega) ?_
 refine Ps (Qe (hK8 _ _ _ (Qc (Pm ?_))))
 refine Pa (Qt rfl rfl om_) (Ps (Qe ?_))
 refine Xl (q' := QS _ _ _ _ _ _ _) rfl ?_
 refine QC (i + 1) (by omega) (by omega) (eC rfl (eC rfl (eC rfl eN))) rfl sb_
 try simp only [dx] at hc9
 refine QL (hK3 _ _ _ ?_)
 refine Ql (eL 3 rfl eN) ?_
 refine Qd fun K9 hK9 => Qc ?_
 rw [List.take_of_length_le (by omega)]
 refine Pm ?_
 refine Pa (Qt rfl rfl om_) (Ps (Qe (hK9 _ _ _ (Qi (hret _ _ _ ?_)))))
 refine Ea results181 (.cons (Qh rfl) .nil) [] le_ ?_
 refine ⟨?_, rfl, rfl⟩; rw [ZD]; rfl
def upTo (p : Nd → Bool) (l : List Nd) (i : Nat) : Prop := ∀ (j : Nat) (y : Nd), l[j]? = some y → j < i → p y = true
theorem upTo.succ {p : Nd → Bool} {l : List Nd} {i : Nat} {x : Nd} (h : upTo p l i) (hx : l[i]? = some x) (hp : p x = true) : upTo p l (i + 1) := fun j y hj hlt => by
 rcases Nat.lt_or_ge j i with h' | h'
 ·exact h j y hj h'
 ·obtain rfl : j = i := by omega
  rw [hx] at hj; cases hj; exact hp
theorem upTo.all {p : Nd → Bool} {l : List Nd} {i : Nat} (h : upTo p l i) (hi : l.length ≤ i) : ∀ y ∈ l, p y = true := fun y hy => by
 obtain ⟨j, hj, rfl⟩ := List.getElem_of_mem hy
 exact h j _ (by simp) (by omega)
theorem QiP {l : List Nd} {i : Nat} {x : Nd} (hx : l[i]? = some x) (h : XX x = false) : yc l = false := by
 rw [← Bool.not_eq_true, plainL_iff]
 intro h'
 have := h' x (List.mem_of_getElem? hx)
 rw [h] at this; cases this
theorem QlG (N : Nat) : ∀ (x : Nd) (cx : List Value) {R : Hp}, SizeOf.sizeOf x ≤ N → RepN R x cx → QTri prog 182 [.agg ⟨cx⟩] R [] (.bool (XX x)) := by
 induction N using Nat.strongRecOn with
 | _ N ih =>
 intro x cx R hN hx
 obtain ⟨k1, n1, s1, l, q, cap, rfl, rfl, hs1, hl⟩ := hx.inv
 have hlb : l.length ≤ big := hl.choose_spec.1
 unfold big at hlb
 refine Tri.q ?_
 refine Qn func182 rfl ntmps182 rfl (fun σ F Q hret hend hpan => ?_)
 try simp only [cB]
 refine Qd fun K1 hK1 => Qc ?_
 refine Xa (wn0 rfl) rfl rfl rfl (fun b1 => ?_)
 refine Ps (Qe (hK1 _ _ _ (Qd fun K2 hK2 => Qd fun K3 hK3 => Qc ?_)))
 refine Pa (Ga underlying150 sizeOf3) ?_
 refine Pa (La o3) (Qe (hK3 _ _ _ (Qp (Qd fun K4 hK4 => Qc ?_))))
 refine Pa (QB rfl rfl) (Ps (Qe (hK4 _ _ _ ?_)))
 refine Qm rfl (fun hc6 => ?_) (fun hc6 => ?_)
 try simp only [dx] at hc6
 refine Qd fun K6 hK6 => Qc ?_
 refine Pa (Ga underlying150 sizeOf9) ?_
 refine Pa (La o9) ?_
 refine Pa (jq rfl rfl) (Pm ?_)
 refine QE 11 rfl (fun hg11 => ?_) (fun hg11 => ?_)
 try simp only [dx] at hg11
 refine Pb (Ga underlying150 sizeOf148) ?_
 refine Pb (La Ys) ?_
 refine Pb (QR underlying148 rfl) ?_
 refine Pb (QB rfl rfl) ?_
 refine Pa (Qr rfl rfl) (Ps (Qe (hK6 _ _ _ (Qi (hret _ _ _ ?_)))))
 refine Ea results182 (.cons (Qh rfl) .nil) [] le_ ?_
 refine ⟨?_, rfl, rfl⟩; first | (focus (simp_all [XX, QF]; done)) | (simp_all [XX, QF]; exact Zc _)
 try simp only [dx] at hg11
 refine Pk (Pk (Pk (Pk ?_)))
 refine Pa (Qo rfl rfl) (Ps (Qe (hK6 _ _ _ ?_)))
 refine Ql (eL 2 rfl eN) ?_
 refine Qi (hret _ _ _ ?_)
 refine Ea results182 (.cons (Qh rfl) .nil) [] le_ ?_
 refine ⟨?_, rfl, rfl⟩; first | (focus (simp_all [XX, QF]; done)) | (simp_all [XX, QF]; exact Zc _)
 try simp only [dx] at hc6
 refine Qd fun K7 hK7 => Qc ?_
 refine Pa (QB rfl rfl) (Ps (Qe (hK7 _ _ _ ?_)))
 refine Qm rfl (fun hc17 => ?_) (fun hc17 => ?_)
 try simp only [dx] at hc17
 refine Qd fun K9 hK9 => Qc ?_
 refine Pa (Ga underlying150 sizeOf36) ?_
 refine Pa (La o36) ?_
 refine Pa (QB rfl rfl) (Pm ?_)
 refine QE 22 rfl (fun hg22 => ?_) (fun hg22 => ?_)
 try simp only [dx] at hg22
 refine Pb (Ga underlying150 sizeOf148) ?_
 refine Pb (La Ys) ?_
 refine Pb (QR underlying148 rfl) ?_
 refine Pb (QB rfl rfl) ?_
 refine Pa (Qr rfl rfl) (Ps (Qe (hK9 _ _ _ (Qi (hret _ _ _ ?_)))))
 refine Ea results182 (.cons (Qh rfl) .nil) [] le_ ?_
 refine ⟨?_, rfl, rfl⟩; first | (focus (simp_all [XX, QF]; done)) | (simp_all [XX, QF]; exact Zc _)
 try simp only [dx] at hg22
 refine Pk (Pk (Pk (Pk ?_)))
 refine Pa (Qo rfl rfl) (Ps (Qe (hK9 _ _ _ ?_)))
 refine Ql (eL 2 rfl eN) ?_
 refine Qi (hret _ _ _ ?_)
 refine Ea results182 (.cons (Qh rfl) .nil) [] le_ ?_
 refine ⟨?_, rfl, rfl⟩; first | (focus (simp_all [XX, QF]; done)) | (simp_all [XX, QF]; exact Zc _)
 try simp only [dx] at hc17
 refine Qd fun K10 hK10 => Qc ?_
 refine Pa (QB rfl rfl) (Ps (Qe (hK10 _ _ _ ?_)))
 refine Qm rfl (fun hc28 => ?_) (fun hc28 => ?_)
 try simp only [dx] at hc28
 refine Qd fun K12 hK12 => Qd fun K13 hK13 => Qc ?_
 refine Pa (Ga underlying150 sizeOf36) ?_
 refine Pa (La o36) ?_
 refine Pa (XU rfl rfl) (Pm ?_)
 refine QE 33 rfl (fun hg33 => ?_) (fun hg33 => ?_)
 try simp only [dx] at hg33
 refine Pk (Pk (Pk ?_))
 refine Pa (Qr rfl rfl) (Qe (hK13 _ _ _ (Qv rfl (Qd fun K14 hK14 => Qc ?_))))
 refine Ps (Qe (hK14 _ _ _ (Qi (hret _ _ _ ?_))))
 refine Ea results182 (.cons (Qh rfl) .nil) [] le_ ?_
 refine ⟨?_, rfl, rfl⟩; first | (focus (simp_all [XX, QF]; done)) | (simp_all [XX, QF]; exact Zc _)
 try simp only [dx] at hg33
 refine Pb (Ga underlying150 sizeOf9) ?_
 refine Pb (La o9) ?_
 refine Pb (Qeh rfl rfl) ?_
 refine Pa (Qo rfl rfl) (Qe (hK13 _ _ _ ?_))
 refine Qm rfl (fun hc37 => ?_) (fun hc37 => ?_)
 try simp only [dx] at hc37
 refine Qd fun K16 hK16 => Qc (Ps (Qe (hK16 _ _ _ (Qi (hret _ _ _ ?_)))))
 refine Ea results182 (.cons (Qh rfl) .nil) [] le_ ?_
 refine ⟨?_, rfl, rfl⟩; first | (focus (simp_all [XX, QF]; done)) | (simp_all [XX, QF]; exact Zc _)
 try simp only [dx] at hc37
 refine Qj (hK12 _ _ _ (Qd fun K17 hK17 => Qd fun K18 hK18 => Qc (Ps (Qe (hK18 _ _ _ (Qp ?_))))))
 refine Ql (E' := (fun (x : Nat) => [(1, .pointer (some ⟨b1, 0, none⟩)), (3, .int .i64 (x : Int))]) 0) (eC rfl (eC rfl eN)) ?_
 refine Xi (M := (fun (x : Nat) => blk b1 [.int .i64 k1, .int .u64 ((n1 : Nat) : Int), .string (str s1), .slice q l.length cap] 150 :: F) 0) sb_ ?_
 refine QY (fun (x : Nat) => [(1, .pointer (some ⟨b1, 0, none⟩)), (3, .int .i64 (x : Int))]) (fun (x : Nat) => R) (fun (x : Nat) => blk b1 [.int .i64 k1, .int .u64 ((n1 : Nat) : Int), .string (str s1), .slice q l.length cap] 150 :: F) (fun (x : Nat) => x ≤ l.length ∧ upTo XX l x) (fun (x : Nat) => l.length - x) 0 (⟨by simp, fun _ _ _ h => by omega⟩) ?_
 rintro i ⟨hi, hall⟩
 try dsimp only
 refine Qd fun K19 hK19 => Qd fun K20 hK20 => Qc (Pm ?_)
 refine Pa (Ga underlying150 sizeOf148) ?_
 refine Pa (La Ys) ?_
 refine Pa (QR underlying148 rfl) ?_
 refine Pa (QO rfl rfl) (Qe (hK20 _ _ _ ?_))
 refine Ql (eL 1 rfl (eL 3 rfl (eL 42 rfl eN))) ?_
 refine Qm rfl (fun hc42 => ?_) (fun hc42 => ?_)
 try simp only [dx] at hc42
 refine Qj (hK19 _ _ _ (Qd fun K22 hK22 => Qp (Qd fun K23 hK23 => Qc ?_)))
 obtain ⟨x1, hx1⟩ : ∃ x, l[i]? = some x := ⟨l[i]'(by omega), by simp⟩
 obtain ⟨b, off, cs, rfl, hc4, hrep, hcell⟩ := hl.at hx1
 refine Pa (Ga underlying150 sizeOf148) ?_
 refine Pa (La Ys) (Pm ?_)
 refine Pa (Qy underlying148 sizeOf150 rfl rfl om_) ?_
 refine Pa ((XT Qw hc4 rfl (fun j u hj => by simpa using hcell j u hj))) ?_
 refine Pa (Ca call182 (ih (SizeOf.sizeOf x1) (by have := List.sizeOf_lt_of_mem (List.mem_of_getElem? hx1); simp at hN; omega) x1 cs (Nat.le_refl _) hrep)) ?_
 refine Pa (Yq rfl) (Qe (hK23 _ _ _ ?_))
 refine Qm rfl (fun hc51 => ?_) (fun hc51 => ?_)
 (try simp only [dx] at hc51); have hpl : yc l = false := QiP hx1 (by simpa using hc51)
 refine Qd fun K25 hK25 => Qc (Ps (Qe (hK25 _ _ _ (Qi (hret _ _ _ ?_)))))
 refine Ea results182 (.cons (Qh rfl) .nil) [] le_ ?_
 refine ⟨?_, rfl, rfl⟩; first | (focus (simp_all [XX, QF]; done)) | (simp_all [XX, QF]; exact Zc _)
 try simp only [dx] at hc51
 refine Qj (hK22 _ _ _ (Qc (Pm ?_)))
 refine Pa (Qt rfl rfl om_) (Ps (Qe ?_))
 refine Xl (q' := QS _ _ _ _ _ _ _) rfl ?_
 refine QC (i + 1) (⟨by omega, hall.succ hx1 (by simpa using hc51)⟩) (by omega) (eC rfl (eC rfl eN)) rfl sb_
 try simp only [dx] at hc42
 refine QL (hK17 _ _ _ ?_)
 refine Ql eN ?_
 refine Qd fun K26 hK26 => Qc ?_
 have hpl : yc l = true := plainL_iff.2 (hall.all (by omega))
 refine Ps (Qe (hK26 _ _ _ (Qi (hret _ _ _ ?_))))
 refine Ea results182 (.cons (Qh rfl) .nil) [] le_ ?_
 refine ⟨?_, rfl, rfl⟩; first | (focus (simp_all [XX, QF]; done)) | (simp_all [XX, QF]; exact Zc _)
 try simp only [dx] at hc28
 refine Qj (hK2 _ _ _ (Qd fun K27 hK27 => Qc (Ps (Qe (hK27 _ _ _ (Qi (hret _ _ _ ?_)))))))
 refine Ea results182 (.cons (Qh rfl) .nil) [] le_ ?_
 refine ⟨?_, rfl, rfl⟩; first | (focus (simp_all [XX, QF]; done)) | (simp_all [XX, QF]; exact Zc _)
theorem QjM {R : Hp} (x : Nd) (cs : List Value) (h : RepN R x cs) (hd : ZD x ≤ big) : QTri prog 178 [.agg ⟨cs⟩] R [] (.bool (Xf 20 x)) := by
 have hr := Qbz 20 x
 have hd' : ZD x ≤ 1000000000000 := hd
 obtain ⟨k, n, s, l, q, cap, rfl, rfl, hs, hl⟩ := h.inv
 refine Tri.q ?_
 refine Qn func178 rfl ntmps178 rfl (fun σ F Q hret hend hpan => ?_)
 try simp only [cB]
 refine Qd fun K1 hK1 => Qc ?_
 refine Xa (wn0 rfl) rfl rfl rfl (fun b1 => ?_)
 refine Ps (Qe (hK1 _ _ _ (Qd fun K2 hK2 => Qc ?_)))
 refine Pa (Lb Qw) ?_
 refine Pa (Ca call181 (Qnn _ _ _ (Nat.le_refl _) h hd)) ?_
 refine Pa (zG rfl rfl) (Pm ?_)
 refine QE 6 rfl (fun hg6 => ?_) (fun hg6 => ?_)
 try simp only [dx] at hg6
 refine Pb (Lb Qw) ?_
 refine Pb (Ca call182 (QlG _ _ _ (Nat.le_refl _) h)) ?_
 refine Pa (Qr rfl rfl) (Ps (Qe (hK2 _ _ _ (Qi (hret _ _ _ ?_)))))
 refine Ea results178 (.cons (Qh rfl) .nil) [] le_ ?_
 refine ⟨?_, rfl, rfl⟩; rw [hr]; simp_all [QF]; intros; omega
 try simp only [dx] at hg6
 refine Pk (Pk ?_)
 refine Pa (Qo rfl rfl) (Ps (Qe (hK2 _ _ _ (Qi (hret _ _ _ ?_)))))
 refine Ea results178 (.cons (Qh rfl) .nil) [] le_ ?_
 refine ⟨?_, rfl, rfl⟩; rw [hr]; simp_all [QF]; intros; omega
@[reducible] def wB (b : Nat) (q : Option Addr) (v : Value) (bad : Bool) : Asn := blk b [.pointer q, v, .bool bad] 209
@[reducible] def wS (v : Value) (bs : List UInt8) : Asn := slc 5 1 v bs.length (Xy bs)
def QaT (b : Nat) (q : Option Addr) : Prop := q = none ∨ q = some ⟨b, 0, none⟩
theorem QbF {R : Hp} (b : Nat) (q : Option Addr) (v : Value) (bad : Bool) (hq : QaT b q) : Tri prog 152 [.pointer (some ⟨b, 0, none⟩)] R [wB b q v bad]
  (fun r R' L' => R = R' ∧ L' = [wB b (some ⟨b, 0, none⟩) v bad]) := by
 refine Qn func152 rfl ntmps152 rfl (fun σ F Q hret hend hpan => ?_)
 try simp only [cB]
 refine Qd fun K1 hK1 => Qc (Pm ?_)
 refine Pa (Qf rfl) ?_
 refine Pa (Ga underlying207 sizeOf205) ?_
 refine Pa (La Qj4) ?_
 refine Pa (XV underlying205 rfl rfl) (Qe (hK1 _ _ _ ?_))
 refine Qm rfl (fun hc6 => ?_) (fun hc6 => ?_)
 try simp only [dx] at hc6
 refine Qc (Pm (Pm ?_))
 refine Pa ((QfN underlying205 underlying229 (by kernel_rfl) rfl fd_ (by simp))) ?_
 refine Pa ((Qg3 func154 (by kernel_rfl) (by kernel_rfl) (by kernel_rfl) (by kernel_rfl) rfl)) ?_
 refine Pa ((Qd4 underlying229 underlying205 (by kernel_rfl) rfl fd_ rfl (by kernel_rfl))) ?_
 refine Pa (Qf rfl) ?_
 refine Pa (Ga underlying207 sizeOf205) ?_
 refine Sa Qj4 ?_
 refine Qe (hend _ _ _ ?_)
 apply QD results152 .nil _ [wB b (some ⟨b, 0, none⟩) v bad] le_ rfl
 case hp => exact ⟨rfl, rfl⟩
 case hS => exact sb_
 obtain rfl : q = some ⟨b, 0, none⟩ := by rcases hq with rfl | rfl; simp at hc6; rfl
 refine Qd fun K3 hK3 => Qc (Pm ?_)
 refine Pa (Qf rfl) ?_
 refine Pa (Ga underlying207 sizeOf205) ?_
 refine Pa (La Qj4) (Pm ?_)
 refine Pa ((QfQ underlying205 (by kernel_rfl) rfl rfl)) (Qe (hK3 _ _ _ ?_))
 refine Ql (eL 19 rfl eN) ?_
 refine Qs rfl (Qj (hend _ _ _ ?_))
 apply QD results152 .nil _ [wB b (some ⟨b, 0, none⟩) v bad] le_ rfl
 case hp => exact ⟨rfl, rfl⟩
 case hS => exact sb_
theorem ZQ {R : Hp} (b : Nat) (q : Option Addr) (v : Value) (bad : Bool) (bs : List UInt8) (u : UInt8) (hq : QaT b q) (hh : YS v) (hl : bs.length ≤ 1000000000) : Tri prog 146 [.pointer (some ⟨b, 0, none⟩), .int .u8 (u.toNat : Int)] R [wB b q v bad, wS v bs]
  (fun r R' L' => R = R' ∧ ∃ v', YS v' ∧ L' = [wB b (some ⟨b, 0, none⟩) v' bad, wS v' (bs ++ [u])]) := by
 refine Qn func146 rfl ntmps146 rfl (fun σ F Q hret hend hpan => ?_)
 try simp only [cB]
 refine Qd fun K1 hK1 => Qc (Ps (Qe (hK1 _ _ _ (Qd fun K2 hK2 => Qc ?_))))
 refine Pm ?_
 refine Ra call152 (QbF b q v bad hq) ?_
 rintro r R' L' hR ⟨rfl, rfl⟩
 try simp only [cB]
 refine Qe (hK2 _ _ _ (Qd fun K3 hK3 => Qc (Pm (Pm ?_))))
 refine Pa (Qf rfl) ?_
 refine Pa (Ga underlying207 sizeOf123) ?_
 refine Pa (La qK) (Pm ?_)
 refine Qz (sz := 1) (wn0 rfl) rfl underlying123 sizeOf5 zeroValue5 rfl rfl rfl (by decide) (by decide) (fun b13 => ?_)
 refine XF (sz := 1) (by_ := 1) ⟨underlying123, _, _, rfl, rfl, rfl, rfl, rfl⟩ (wn0 rfl) rfl rfl rfl fd_ (YT (xs := [.int .u8 (u.toNat : Int)]) underlying123 fd_ (by (first | (simp [Value.oneCell']; done) | (intro u hu; simp only [List.mem_cons, List.not_mem_nil, or_false] at hu; rcases hu with rfl | rfl | rfl | rfl <;> first | rfl | assumption)))) rfl om_ (by simp only [maxLen]; omega) (fun v14 ho14 hh14 => ?_)
 rw [show Xy bs ++ [Value.int .u8 (u.toNat : Int)] = Xy (bs ++ [u]) by rw [← Qao]; rfl, show bs.length + 1 = (bs ++ [u]).length by simp]
 refine Pa (Qf rfl) ?_
 refine Pa (Ga underlying207 sizeOf123) ?_
 refine Sa qK ?_
 refine Qe (hK3 _ _ _ ?_)
 refine Ql eN ?_
 refine Qd fun K4 hK4 => Qc (Ps (Qe (hK4 _ _ _ (Qi (hret _ _ _ ?_)))))
 refine Ea results146 (.cons (Qh rfl) .nil) [wB b (some ⟨b, 0, none⟩) v14 bad, wS v14 (bs ++ [u])] le_ ?_
 exact ⟨rfl, v14, hh14 hh, rfl⟩
theorem Qd5 {R : Hp} (b : Nat) (q : Option Addr) (v : Value) (bad : Bool) (bs s : List UInt8) (hq : QaT b q) (hh : YS v) (hl : bs.length ≤ 1000000000) (hs : s.length ≤ 1000000000) : Tri prog 148 [.pointer (some ⟨b, 0, none⟩), .string (str s)] R [wB b q v bad, wS v bs]
  (fun r R' L' => R = R' ∧ ∃ v', YS v' ∧ L' = [wB b (some ⟨b, 0, none⟩) v' bad, wS v' (bs ++ s)]) := by
 refine Qn func148 rfl ntmps148 rfl (fun σ F Q hret hend hpan => ?_)
 try simp only [cB]
 refine Qd fun K1 hK1 => Qc (Ps (Ps (Qe (hK1 _ _ _ (Qd fun K2 hK2 => Qc ?_)))))
 refine Pm ?_
 refine Ra call152 (QbF b q v bad hq) ?_
 rintro r R' L' hR ⟨rfl, rfl⟩
 try simp only [cB]
 refine Qe (hK2 _ _ _ (Qd fun K3 hK3 => Qc (Pm (Pm ?_))))
 refine Pa (Qf rfl) ?_
 refine Pa (Ga underlying207 sizeOf123) ?_
 refine Pa (La qK) (Pm ?_)
 refine XF (sz := 1) (by_ := 1) ⟨underlying123, _, _, rfl, rfl, rfl, rfl, rfl⟩ (wn0 rfl) rfl rfl rfl fd_ (Qgp underlying9) rfl om_ (by simp only [maxLen]; omega) (fun v14 ho14 hh14 => ?_)
 rw [Qao, ← List.length_append]
 refine Pa (Qf rfl) ?_
 refine Pa (Ga underlying207 sizeOf123) ?_
 refine Sa qK ?_
 refine Qe (hK3 _ _ _ (Qd fun K4 hK4 => Qc (Pm ?_)))
 refine Pa (Yv underlying9 rfl) (Ps (Ps (Qe (hK4 _ _ _ (Qi (hret _ _ _ ?_))))))
 refine Ea results148 (.cons (Qh rfl) (.cons (Qh rfl) .nil)) [wB b (some ⟨b, 0, none⟩) v14 bad, wS v14 (bs ++ s)] le_ ?_
 exact ⟨rfl, v14, hh14 hh, rfl⟩
theorem QfJ {R : Hp} (b : Nat) (q : Option Addr) (v : Value) (bad : Bool) (bs : List UInt8) : QTri prog 137 [.pointer (some ⟨b, 0, none⟩)] R [wB b q v bad, wS v bs] (.int .i64 (bs.length : Int)) := by
 refine Tri.q ?_
 refine Qn func137 rfl ntmps137 rfl (fun σ F Q hret hend hpan => ?_)
 try simp only [cB]
 refine Qd fun K1 hK1 => Qc (Ps (Qe (hK1 _ _ _ (Qd fun K2 hK2 => Qc ?_))))
 refine Pm ?_
 refine Pa (Qf rfl) ?_
 refine Pa (Ga underlying207 sizeOf123) ?_
 refine Pa (La qK) ?_
 refine Pa (YE underlying123 rfl fd_) (Ps (Qe (hK2 _ _ _ (Qi (hret _ _ _ ?_)))))
 refine Ea results137 (.cons (Qh rfl) .nil) [wB b q v bad, wS v bs] le_ ?_
 exact ⟨rfl, rfl, rfl⟩
theorem Qjo {R : Hp} (b : Nat) (q : Option Addr) (v : Value) (bad : Bool) (bs : List UInt8) (hh : YS v) (h0 : 0 < bs.length) (hl : bs.length ≤ 1000000000) : Tri prog 138 [.pointer (some ⟨b, 0, none⟩)] R [wB b q v bad, wS v bs]
  (fun r R' L' => R = R' ∧ r = .string (str bs) ∧ L' = []) := by
 refine Qn func138 rfl ntmps138 rfl (fun σ F Q hret hend hpan => ?_)
 try simp only [cB]
 refine qT (A := wS v bs) fd_ qP (fun hsh => ?_)
 obtain ⟨qq, k, rfl, hk, _, hqq⟩ := hsh
 obtain ⟨bb, off, rfl⟩ := hqq h0
 obtain rfl := hh _ _ _ _ rfl
 refine Qd fun K1 hK1 => Qc (Ps (Qe (hK1 _ _ _ (Qd fun K2 hK2 => ?_))))
 refine jL [0, 1, 2, 3, 4, 5, 6, 7, 8, 9] [] [10, 11] (by kernel_rfl) (by kernel_rfl) (by kernel_rfl) rfl ?_
 refine Wa rfl (fun R1 hR1 G => (Qg rfl)) ?_
 refine Wa rfl (fun R1 hR1 G => (Qf rfl)) ?_
 refine Wa rfl (fun R1 hR1 G => (Ga underlying207 sizeOf123)) ?_
 refine Wa rfl (fun R1 hR1 G => (La qK)) ?_
 refine Wa rfl (fun R1 hR1 G => (QnA rfl (by omega))) ?_
 refine Wa rfl (fun R1 hR1 G => (Qg rfl)) ?_
 refine Wa rfl (fun R1 hR1 G => (Qf rfl)) ?_
 refine Wa rfl (fun R1 hR1 G => (Ga underlying207 sizeOf123)) ?_
 refine Wa rfl (fun R1 hR1 G => (La qK)) ?_
 refine Wa rfl (fun R1 hR1 G => (QR underlying123 rfl)) ?_
 refine Xc ?_
 refine Xe ?_
 try simp only [cC]
 refine Qcm (wn0 rfl) rfl underlying223 (by kernel_rfl) rfl rfl fd_ h0 (by omega) ?_
 refine Ps (Qe (hK2 _ _ _ (Qi (hret _ _ _ ?_))))
 refine Ea results138 (.cons (Qh rfl) .nil) [] le_ ?_
 exact ⟨rfl, rfl, rfl⟩
theorem QnJ (m : Nat) : qu .u8 (IntKind.u8.wrap (m : Int)) 128 = ((UInt8.ofNat (m % 128 + 128)).toNat : Int) := by
 have hw : IntKind.u8.wrap (m : Int) = ((m % 256 : Nat) : Int) := by
  simp [IntKind.wrap, IntKind.signed, IntKind.bits]
 rw [hw, Yl _ (by omega)]
 have hlt : m % 256 < 256 := Nat.mod_lt _ (by decide)
 have hmm : m % 128 = m % 256 % 128 := by omega
 rw [hmm]
 generalize m % 256 = A at hlt
 have key : ∀ A : Fin 256, qu .u8 ((A.val : Nat) : Int) 128 = ((A.val % 128 + 128 : Nat) : Int) := by decide +kernel
 exact key ⟨A, hlt⟩
theorem qp {k : IntKind} (m j : Nat) (z : Int) (hz : z = j) (hj : j ≤ k.bits) : ((m : Nat) : Int).fdiv (2 ^ min z.toNat k.bits) = ((m / 2 ^ j : Nat) : Int) := by
 subst hz
 rw [Int.toNat_natCast, Nat.min_eq_left hj, Int.fdiv_eq_ediv_of_nonneg _ (by exact Int.pow_nonneg (by decide))]
 rw [Int.natCast_ediv, Int.natCast_pow]; rfl
theorem jP (m : Nat) : IntKind.u8.wrap (m : Int) = ((UInt8.ofNat (m % 256)).toNat : Int) := by
 rw [Yl _ (by omega)]; simp [IntKind.wrap, IntKind.signed, IntKind.bits]
theorem QcU {R : Hp} (b : Nat) (q : Option Addr) (v : Value) (bad : Bool) (bs : List UInt8) (n : Nat) (hq : QaT b q) (hh : YS v) (hl : bs.length ≤ 100000000) (hn : n ≤ big) :
  Tri prog 147 [.pointer (some ⟨b, 0, none⟩), .int .i64 (n : Int)] R [wB b q v bad, wS v bs]
  (fun r R' L' => R = R' ∧ ∃ v', YS v' ∧ L' = [wB b (some ⟨b, 0, none⟩) v' bad, wS v' (bs ++ Xt n)]) := by
 unfold big at hn
 have hsl := Za 5 n (by simp; omega)
 refine Qn func147 rfl ntmps147 rfl (fun σ F Q hret hend hpan => ?_)
 try simp only [cB]
 refine Qd fun K1 hK1 => Qp ?_
 refine Ql (E' := (fun (x : Nat × List UInt8 × Option Addr × Value) => [(0, .pointer (some ⟨b, 0, none⟩)), (1, .int .i64 (x.1 : Int))]) (n, bs, q, v)) (eC rfl (eC rfl eN)) ?_
 refine Xi (M := (fun (x : Nat × List UInt8 × Option Addr × Value) => wB b x.2.2.1 x.2.2.2 bad :: wS x.2.2.2 x.2.1 :: F) (n, bs, q, v)) sb_ ?_
 refine QY (fun (x : Nat × List UInt8 × Option Addr × Value) => [(0, .pointer (some ⟨b, 0, none⟩)), (1, .int .i64 (x.1 : Int))]) (fun (x : Nat × List UInt8 × Option Addr × Value) => R) (fun (x : Nat × List UInt8 × Option Addr × Value) => wB b x.2.2.1 x.2.2.2 bad :: wS x.2.2.2 x.2.1 :: F) (fun (x : Nat × List UInt8 × Option Addr × Value) => QaT b x.2.2.1 ∧ YS x.2.2.2 ∧ x.2.1 ++ Xt x.1 = bs ++ Xt n ∧ x.1 ≤ n) (fun (x : Nat × List UInt8 × Option Addr × Value) => x.1) (n, bs, q, v) (⟨hq, hh, rfl, Nat.le_refl _⟩) ?_
 rintro ⟨m, acc, q1, v1⟩ ⟨hq1, hh1, he, hm⟩
 try dsimp only
 dsimp only at hq1 hh1 he hm
 have hel := congrArg List.length he
 simp only [List.length_append] at hel
 refine Qd fun K2 hK2 => Qd fun K3 hK3 => Qc (Pm ?_)
 refine Pa (YX rfl rfl) (Qe (hK3 _ _ _ ?_))
 refine Qm rfl (fun hc5 => ?_) (fun hc5 => ?_)
 try simp only [dx] at hc5
 refine Qj (hK2 _ _ _ (Qd fun K5 hK5 => Qp (Qc (Pm ?_))))
 refine Pa (Qf rfl) ?_
 refine Pa (Ga underlying209 sizeOf207) (Pm ?_)
 refine Pa (qW underlying3 underlying5 rfl) ?_
 refine Pa (QcT rfl rfl) ?_
 refine Xg 13 rfl (congrArg _ (QnJ m)) ?_
 refine Ra call146 (ZQ b q1 v1 bad acc _ hq1 hh1 (by omega)) ?_
 rintro r R' L' hR ⟨rfl, v2, hh2, rfl⟩
 try simp only [cB]
 refine Qe (hK5 _ _ _ (Qc (Pm ?_)))
 refine Pa (yR rfl rfl om_) ?_
 refine Xg 7 rfl (congrArg _ (qp m 7 7 rfl (by decide))) ?_
 refine Ps (Qe ?_)
 refine Xl (q' := QS _ _ _ _ _ _ _) rfl ?_
 refine QC ((m / 128, acc ++ [UInt8.ofNat (m % 128 + 128)], some ⟨b, 0, none⟩, v2)) (⟨.inr rfl, hh2, by dsimp only; rw [← he, qQ (n := m) (by omega)]; simp, by dsimp only; omega⟩) (by dsimp only; omega) (eC rfl (eC rfl eN)) rfl sb_
 try simp only [dx] at hc5
 refine QL (hK1 _ _ _ (Qc (Pm ?_)))
 refine Pa (Qf rfl) ?_
 refine Pa (Ga underlying209 sizeOf207) (Pm ?_)
 refine Pa (Xp underlying3 underlying5 rfl (by (simp only [IntKind.min, IntKind.max, IntKind.signed, IntKind.bits, Bool.false_eq_true, ite_false, ite_true]; omega))) ?_
 refine Xg 19 rfl (v' := .int .u8 ((UInt8.ofNat m).toNat : Int)) (by rw [Yl _ (by omega)]) ?_
 refine Ra call146 (ZQ b q1 v1 bad acc _ hq1 hh1 (by omega)) ?_
 rintro r R' L' hR ⟨rfl, v2, hh2, rfl⟩
 rw [show acc ++ [UInt8.ofNat m] = bs ++ Xt n by rw [← he, Yp (by omega)]]
 try simp only [cB]
 refine Qe (hend _ _ _ ?_)
 apply QD results147 .nil _ [wB b (some ⟨b, 0, none⟩) v2 bad, wS v2 (bs ++ Xt n)] le_ rfl
 case hp => exact ⟨rfl, v2, hh2, rfl⟩
 case hS => exact sb_
theorem Qd1 : ∀ (k n : Nat), n < 2 ^ k → (k = 0 ∨ 2 ^ (k - 1) ≤ n) → YA n = k
 | 0, n, h, _ => by have : n = 0 := by simpa using h
                    subst this; exact qC
 | k + 1, n, h, h2 => by
   have h3 : 2 ^ k ≤ n := by simpa using h2
   have hp : 1 ≤ 2 ^ k := Nat.one_le_two_pow
   rw [yY (by omega), Qd1 k (n / 2) (by rw [Nat.pow_succ] at h; omega) (by
     cases k with
     | zero => exact .inl rfl
     | succ k => right; rw [Nat.pow_succ] at h3; simp; omega)]
theorem Qob {m : List UInt8} (h : ∀ x : Fin 256, x.val < 2 ^ (m.getD x.val 0).toNat ∧ ((m.getD x.val 0).toNat = 0 ∨ 2 ^ ((m.getD x.val 0).toNat - 1) ≤ x.val)) {n : Nat} (hn : n < 256) : XB m (n : Int) = (YA n : Int) := by
 have := h ⟨n, hn⟩
 rw [Qd1 _ _ this.1 this.2]
 simp [XB]
theorem QgF {R : Hp} (n : Nat) (hn : n < 18446744073709551616) : QTri prog 134 [.int .u64 (n : Int)] R [] (.int .i64 (YA n : Int)) := by
 refine Tri.q ?_
 refine Qn func134 rfl ntmps134 rfl (fun σ F Q hret hend hpan => ?_)
 try simp only [cB]
 refine Qd fun K1 hK1 => Qc (Ps (Qe (hK1 _ _ _ (Qd fun K2 hK2 => ?_))))
 have hJ4 : ∀ (x : Nat × Nat), x.1 < 4294967296 ∧ x.2 + YA x.1 = YA n ∧ x.2 ≤ 32 → EJ ⟨prog, 25, σ⟩ K2 [(0, .int .u64 (x.1 : Int)), (2, .int .i64 (x.2 : Int))] R (F) := by
  rintro ⟨m, r⟩ ⟨hm, hb, hr⟩
  try dsimp only
  dsimp only at hm hb hr
  refine hK2 _ _ _ (Qd fun K3 hK3 => ?_)
  have hJ7 : ∀ (x : Nat × Nat), x.1 < 65536 ∧ x.2 + YA x.1 = YA n ∧ x.2 ≤ 48 → EJ ⟨prog, 25, σ⟩ K3 [(0, .int .u64 (x.1 : Int)), (2, .int .i64 (x.2 : Int))] R (F) := by
   rintro ⟨m2, r2⟩ ⟨hm2, hb2, hr2⟩
   try dsimp only
   dsimp only at hm2 hb2 hr2
   refine hK3 _ _ _ (Qd fun K4 hK4 => ?_)
   have hJ10 : ∀ (x : Nat × Nat), x.1 < 256 ∧ x.2 + YA x.1 = YA n ∧ x.2 ≤ 56 → EJ ⟨prog, 25, σ⟩ K4 [(0, .int .u64 (x.1 : Int)), (2, .int .i64 (x.2 : Int))] R (F) := by
    rintro ⟨m3, r3⟩ ⟨hm3, hb3, hr3⟩
    try dsimp only
    dsimp only at hm3 hb3 hr3
    have hb8 := zY 8 m3 (by simpa using hm3)
    refine hK4 _ _ _ (Qd fun K5 hK5 => Qc (Pm (Pm ?_)))
    refine Pa (Xp underlying36 underlying5 rfl (by (simp only [IntKind.min, IntKind.max, IntKind.signed, IntKind.bits, Bool.false_eq_true, ite_false, ite_true]; omega))) ?_
    refine Pa ((Yx underlying9 rfl rfl ⟨by omega, Int.lt_of_lt_of_le (by omega : (m3 : Int) < 256) (by decide +kernel)⟩)) ?_
    refine Xg 22 rfl (congrArg _ (Qob (by decide +kernel) hm3)) ?_
    refine Pa (Xp underlying5 underlying3 rfl (by (simp only [IntKind.min, IntKind.max, IntKind.signed, IntKind.bits, Bool.false_eq_true, ite_false, ite_true]; omega))) ?_
    refine Pa (Qt rfl rfl om_) (Ps (Qe (hK5 _ _ _ (Qi (hret _ _ _ ?_)))))
    refine Ea results134 (.cons (Qh rfl) .nil) [] le_ ?_
    refine ⟨?_, rfl, rfl⟩; rw [← hb3]; rfl
   refine Qd fun K6 hK6 => Qc (Pm ?_)
   refine Pa (YX rfl rfl) (Qe (hK6 _ _ _ ?_))
   refine Qm rfl (fun hc14 => ?_) (fun hc14 => ?_)
   try simp only [dx] at hc14
   refine Qd fun K8 hK8 => Qc (Pm ?_)
   refine Pa (yR rfl rfl om_) ?_
   refine Xg 16 rfl (congrArg _ (qp m2 8 8 rfl (by decide))) ?_
   refine Ps (Qe (hK8 _ _ _ (Qc (Pm ?_))))
   refine Pa (Qt rfl rfl om_) (Ps (Qe ?_))
   refine QG hJ10 ((m2 / 2 ^ 8, r2 + 8)) (⟨by dsimp only; omega, by have := qj 8 m2 (by omega); dsimp only; omega, by dsimp only; omega⟩) (eC rfl (eC rfl eN)) rfl sb_
   try simp only [dx] at hc14
   refine Qj ?_
   refine QG hJ10 ((m2, r2)) (⟨by dsimp only; omega, hb2, by dsimp only; omega⟩) (eC rfl (eC rfl eN)) rfl sb_
  refine Qd fun K9 hK9 => Qc (Pm ?_)
  refine Pa (YX rfl rfl) (Qe (hK9 _ _ _ ?_))
  refine Qm rfl (fun hc8 => ?_) (fun hc8 => ?_)
  try simp only [dx] at hc8
  refine Qd fun K11 hK11 => Qc (Pm ?_)
  refine Pa (yR rfl rfl om_) ?_
  refine Xg 10 rfl (congrArg _ (qp m 16 16 rfl (by decide))) ?_
  refine Ps (Qe (hK11 _ _ _ ?_))
  refine Ql (eL 0 rfl (eL 2 rfl eN)) ?_
  refine Qc (Pm ?_)
  refine Pa (Qt rfl rfl om_) (Ps (Qe ?_))
  refine QG hJ7 ((m / 2 ^ 16, r + 16)) (⟨by dsimp only; omega, by have := qj 16 m (by omega); dsimp only; omega, by dsimp only; omega⟩) (eC rfl (eC rfl eN)) rfl sb_
  try simp only [dx] at hc8
  refine Qj ?_
  refine QG hJ7 ((m, r)) (⟨by dsimp only; omega, hb, by dsimp only; omega⟩) (eC rfl (eC rfl eN)) rfl sb_
 refine Qd fun K12 hK12 => Qc (Pm ?_)
 refine Pa (YX rfl rfl) (Qe (hK12 _ _ _ ?_))
 refine Qm rfl (fun hc4 => ?_) (fun hc4 => ?_)
 try simp only [dx] at hc4
 refine Qd fun K14 hK14 => Qc (Pm ?_)
 refine Pa (yR rfl rfl om_) ?_
 refine Xg 6 rfl (congrArg _ (qp n 32 32 rfl (by decide))) ?_
 refine Ps (Qe (hK14 _ _ _ (Qc (Ps (Qe ?_)))))
 refine QG hJ4 ((n / 2 ^ 32, 32)) (⟨by dsimp only; omega, by have := qj 32 n (by omega); dsimp only; omega, by simp⟩) (eC rfl (eC rfl eN)) rfl sb_
 try simp only [dx] at hc4
 refine Qj ?_
 refine QG hJ4 ((n, 0)) (⟨by dsimp only; omega, by simp, by simp⟩) (eC rfl (eC rfl eN)) rfl sb_
def Qn7 (b : Nat) (bs out : List UInt8) (bad : Bool) (R R' : Hp) (L' : List Asn) : Prop :=
 R = R' ∧ ∃ q' v' bad' bs', QaT b q' ∧ YS v' ∧ L' = [wB b q' v' bad', wS v' bs'] ∧ (bad = true → bad' = true) ∧ (bad' = false → bs' = bs ++ out) ∧ (bad = false → bad' = true → 16777216 < (bs ++ out).length) ∧ (bs'.length ≤ bs.length ∨ bs'.length ≤ 16777316)
theorem Qn9 (m : Nat) (h : m ≤ 64) : IntKind.i64.wrap (((m : Int) + 7).tdiv 8) = (((m + 7) / 8 : Nat) : Int) := by
 rw [Int.tdiv_eq_ediv_of_nonneg (by omega), ZA ⟨by omega, by omega⟩]; omega
theorem Qik (n j : Nat) (hj : j < (Xq n).length) : (Xq n).take j ++ [UInt8.ofNat (n / 2 ^ (8 * ((Xq n).length - 1 - j)) % 256)] = (Xq n).take (j + 1) := by
 have := Qj6 n j hj
 rw [List.take_add_one, this, show (256 : Nat) = 2 ^ 8 by rfl, ← Nat.pow_mul]
 rfl
theorem zp {l : List Nd} {i : Nat} {x : Nd} (hx : l[i]? = some x) : wrs (l.take (i + 1)) = wrs (l.take i) ++ wr x := by
 have key : ∀ (m : List Nd), wrs (m ++ [x]) = wrs m ++ wr x := by
  intro m
  induction m with
  | nil => simp [wrs]
  | cons y m ih => rw [List.cons_append, wrs, ih, wrs, List.append_assoc]
 rw [List.take_add_one, hx]; exact key _
theorem Qk9 (N : Nat) : ∀ (x : Nd) (cx : List Value) {R : Hp} (b : Nat) (q : Option Addr) (v : Value) (bad : Bool) (bs : List UInt8), SizeOf.sizeOf x ≤ N → RepN R x cx → OkN x → QaT b q → YS v → bs.length ≤ 16777316 →
  Tri prog 136 [.pointer (some ⟨b, 0, none⟩), .agg ⟨cx⟩] R [wB b q v bad, wS v bs] (fun r R' L' => Qn7 b bs (wr x) bad R R' L') := by
 induction N using Nat.strongRecOn with
 | _ N ih =>
 intro x cx R b q v bad bs hN hx hok hq hh hbl
 obtain ⟨k, n, s, l, sq, cap, rfl, rfl, hs, hl⟩ := hx.inv
 have hlb : l.length ≤ big := hl.choose_spec.1
 obtain ⟨hn, hkids⟩ : n < 18446744073709551616 ∧ ∀ y ∈ l, OkN y := by cases hok with | mk h1 h2 => exact ⟨h1, h2⟩
 have hnl : (Xq n).length ≤ 8 := qA 8 n (by omega)
 have hnb := QiT n
 have hb64 := zY 64 n (by omega)
 have hz1 := Za 5 (Xq n).length (by omega)
 have hs0 := hs
 have hl0 := hlb
 unfold big at hs hlb
 have hz2 := Za 5 s.length (by simp; omega)
 have hz3 := Za 5 l.length (by simp; omega)
 refine Qn func136 rfl ntmps136 rfl (fun σ F Q hret hend hpan => ?_)
 try simp only [cB]
 refine Qd fun K1 hK1 => Qc ?_
 refine Xa (wn0 rfl) rfl rfl rfl (fun bx => ?_)
 refine Qe (hK1 _ _ _ (Qd fun K2 hK2 => Qd fun K3 hK3 => Qc (Pm (Pm ?_))))
 refine Pa (Qf rfl) ?_
 refine Pa (Ga underlying209 sizeOf4) ?_
 refine Pa (La o4) (Pm ?_)
 refine QE 13 rfl (fun hg13 => ?_) (fun hg13 => ?_)
 subst hg13
 refine Pk (Pk (Pk (Pk (Pk ?_))))
 refine Pa (Qr rfl rfl) ?_
 refine Pa (Qf rfl) ?_
 refine Pa (Ga underlying209 sizeOf4) ?_
 refine Sa o4 ?_
 refine Qe (hK3 _ _ _ (Qd fun K4 hK4 => Qc (Pm ?_)))
 refine Pa (Qf rfl) ?_
 refine Pa (Ga underlying209 sizeOf4) ?_
 refine Pa (La o4) (Qe (hK4 _ _ _ ?_))
 refine Ql (eL 0 rfl (eL 3 rfl (eL 25 rfl eN))) ?_
 refine Qv rfl (Qi (hret _ _ _ ?_))
 refine Ea results136 .nil [wB b q v true, wS v bs] le_ ?_
 exact ⟨rfl, q, v, true, bs, hq, hh, rfl, fun _ => rfl, fun h => (by cases h), fun h => (by cases h), .inl (Nat.le_refl _)⟩
 subst hg13
 refine Pb (Qg rfl) ?_
 refine Pb (Qf rfl) ?_
 refine Pb (Ga underlying209 sizeOf207) ?_
 refine Pb (Ca call137 (QfJ b q v false bs)) ?_
 refine Pb (Xs rfl rfl) ?_
 refine Pa (Qo rfl rfl) ?_
 refine Pa (Qf rfl) ?_
 refine Pa (Ga underlying209 sizeOf4) ?_
 refine Sa o4 ?_
 refine Qe (hK3 _ _ _ (Qd fun K5 hK5 => Qc (Pm ?_)))
 refine Pa (Qf rfl) ?_
 refine Pa (Ga underlying209 sizeOf4) ?_
 refine Pa (La o4) (Qe (hK5 _ _ _ ?_))
 refine Qm rfl (fun hc25 => ?_) (fun hc25 => ?_)
 rw [hc25]; (try simp only [dx] at hc25)
 refine Qi (hret _ _ _ ?_)
 refine Ea results136 .nil [wB b q v true, wS v bs] le_ ?_
 exact ⟨rfl, q, v, true, bs, hq, hh, rfl, fun _ => rfl, fun h => (by cases h), fun _ _ => by simp at hc25 ⊢; omega, .inl (Nat.le_refl _)⟩
 rw [hc25]; (try simp only [dx] at hc25)
 refine Qj (hK2 _ _ _ (Qd fun K7 hK7 => Qc ?_))
 refine Pa (Ga underlying150 sizeOf3) ?_
 refine Pa (La o3) (Qe (hK7 _ _ _ (Qp (Qd fun K8 hK8 => Qc ?_))))
 refine Pa (QB rfl rfl) (Ps (Qe (hK8 _ _ _ ?_)))
 refine Qm rfl (fun hc48 => ?_) (fun hc48 => ?_)
 (try simp only [dx] at hc48); subst hc48
 refine Qd fun K10 hK10 => Qc ?_
 refine Pa (Ga underlying150 sizeOf36) ?_
 refine Pa (La o36) ?_
 refine Pa (Ca call134 (QgF n hn)) ?_
 refine Pa (Qt rfl rfl om_) ?_
 refine Pa (Qd8 rfl rfl om_) ?_
 refine Xg 54 rfl (v' := .int .i64 ((Xq n).length : Int)) (by rw [hnb]; exact congrArg _ (Qn9 _ hb64)) ?_
 refine Ps (Qe (hK10 _ _ _ ?_))
 refine Ql (eL 0 rfl (eL 3 rfl (eL 4 rfl eN))) ?_
 refine Qd fun K11 hK11 => Qc (Pm ?_)
 refine Pa (Qf rfl) ?_
 refine Pa (Ga underlying209 sizeOf207) ?_
 refine Ra call146 (ZQ b q v false bs 110 hq hh (by omega)) ?_
 rintro r R' L' hR ⟨rfl, v1, hh1, rfl⟩
 try simp only [cB]
 refine Qe (hK11 _ _ _ (Qd fun K12 hK12 => Qc (Pm (Pm ?_))))
 refine Ra call147 (QcU b (some ⟨b, 0, none⟩) v1 false (bs ++ [110]) (Xq n).length (.inr rfl) hh1 (by simp; omega) (by unfold big; omega)) ?_
 rintro r R' L' hR ⟨rfl, v2, hh2, rfl⟩
 obtain ⟨base, hbase⟩ : ∃ base, base = bs ++ [110] ++ Xt (Xq n).length := ⟨_, rfl⟩
 have hbl2 : base.length ≤ 16777300 := by rw [hbase]; simp; omega
 rw [← hbase]
 try simp only [cB]
 refine Qe (hK12 _ _ _ (Qd fun K13 hK13 => Qc (Pm ?_)))
 refine Pa (YN rfl rfl om_) ?_
 refine Pa (jr rfl rfl om_) (Ps (Qe (hK13 _ _ _ (Qp ?_))))
 rw [show base = base ++ (Xq n).take 0 by simp]
 refine Ql (E' := (fun (x : Nat × Value) => [(0, .pointer (some ⟨b, 0, none⟩)), (3, .pointer (some ⟨bx, 0, none⟩)), (5, .int .i64 (8 * (((Xq n).length : Int) - 1 - x.1)))]) (0, v2)) (eC rfl (eC rfl (Env.le_cons (Eq.trans rfl (congrArg some (by first | rfl | (exact congrArg (Value.int .i64) (by first | omega | (dsimp only; omega)))))) eN))) ?_
 refine Xi (M := (fun (x : Nat × Value) => wB b (some ⟨b, 0, none⟩) x.2 false :: wS x.2 (base ++ (Xq n).take x.1) :: blk bx [.int .i64 0, .int .u64 (n : Int), .string (str s), .slice sq l.length cap] 150 :: F) (0, v2)) sb_ ?_
 refine QY (fun (x : Nat × Value) => [(0, .pointer (some ⟨b, 0, none⟩)), (3, .pointer (some ⟨bx, 0, none⟩)), (5, .int .i64 (8 * (((Xq n).length : Int) - 1 - x.1)))]) (fun (x : Nat × Value) => R) (fun (x : Nat × Value) => wB b (some ⟨b, 0, none⟩) x.2 false :: wS x.2 (base ++ (Xq n).take x.1) :: blk bx [.int .i64 0, .int .u64 (n : Int), .string (str s), .slice sq l.length cap] 150 :: F) (fun (x : Nat × Value) => x.1 ≤ (Xq n).length ∧ YS x.2) (fun (x : Nat × Value) => (Xq n).length - x.1) (0, v2) (⟨by simp, hh2⟩) ?_
 rintro ⟨j, vj⟩ ⟨hj, hhj⟩
 try dsimp only
 dsimp only at hj hhj
 have htl : ((Xq n).take j).length = j := by rw [List.length_take]; omega
 refine Qd fun K14 hK14 => Qd fun K15 hK15 => Qc (Pm ?_)
 refine Pa (YX rfl rfl) (Qe (hK15 _ _ _ ?_))
 refine Qm rfl (fun hc66 => ?_) (fun hc66 => ?_)
 try simp only [dx] at hc66
 refine Qj (hK14 _ _ _ (Qd fun K17 hK17 => Qp ?_))
 refine jL [0, 1, 2, 3, 4, 5, 6, 7] [] [8] (by kernel_rfl) (by kernel_rfl) (by kernel_rfl) rfl ?_
 refine Wa rfl (fun R1 hR1 G => (Qg rfl)) ?_
 refine Wa rfl (fun R1 hR1 G => (Qf rfl)) ?_
 refine Wa rfl (fun R1 hR1 G => (Ga underlying209 sizeOf207)) ?_
 refine Wa rfl (fun R1 hR1 G => (Ga underlying150 sizeOf36)) ?_
 refine Wa rfl (fun R1 hR1 G => (La o36)) ?_
 refine Wa rfl (fun R1 hR1 G => (Qg rfl)) ?_
 refine Wa rfl (fun R1 hR1 G => (yR rfl rfl (by omega)).to (congrArg _ (qp n (8 * ((Xq n).length - 1 - j)) _ (by omega) (by simp only [IntKind.bits]; omega)))) ?_
 refine Wa rfl (fun R1 hR1 G => (qW underlying36 underlying5 rfl).to (congrArg _ (jP _))) ?_
 refine Xc ?_
 refine Xe ?_
 try simp only [cC]
 refine Ra call146 (ZQ b _ vj false (base ++ (Xq n).take j) _ (.inr rfl) hhj (by simp; omega)) ?_
 rintro r R' L' hR ⟨rfl, v3, hh3, rfl⟩
 rw [List.append_assoc, Qik n j (by omega)]
 try simp only [cB]
 refine Qe (hK17 _ _ _ ?_)
 refine Ql (eL 0 rfl (eL 3 rfl (eL 5 rfl eN))) ?_
 refine Qc (Pm ?_)
 refine Pa (YN rfl rfl om_) (Ps (Qe ?_))
 refine Xl (q' := QS _ _ _ _ _ _ _) rfl ?_
 refine QC ((j + 1, v3)) (⟨by dsimp only; omega, hh3⟩) (by dsimp only; omega) (eC rfl (eC rfl (Env.le_cons (Eq.trans rfl (congrArg some (by first | rfl | (exact congrArg (Value.int .i64) (by first | omega | (dsimp only; omega)))))) eN))) rfl sb_
 try simp only [dx] at hc66
 refine QL (hend _ _ _ ?_)
 apply QD results136 .nil _ [wB b (some ⟨b, 0, none⟩) vj false, wS vj (base ++ (Xq n).take j)] le_ rfl
 case hp =>
  refine ⟨rfl, some ⟨b, 0, none⟩, vj, false, base ++ (Xq n).take j, .inr rfl, hhj, rfl, fun h => (by cases h), fun _ => ?_, fun _ h => (by cases h), .inr (by simp; omega)⟩
  rw [hbase, List.take_of_length_le (by omega), wr]; simp
 case hS => exact sb_
 try simp only [dx] at hc48
 refine Qd fun K18 hK18 => Qc ?_
 refine Pa (QB rfl rfl) (Ps (Qe (hK18 _ _ _ ?_)))
 refine Qm rfl (fun hc78 => ?_) (fun hc78 => ?_)
 (try simp only [dx] at hc78); subst hc78
 refine Qd fun K20 hK20 => Qc (Pm ?_)
 refine Pa (Qf rfl) ?_
 refine Pa (Ga underlying209 sizeOf207) ?_
 refine Ra call146 (ZQ b q v false bs 115 hq hh (by omega)) ?_
 rintro r R' L' hR ⟨rfl, v1, hh1, rfl⟩
 try simp only [cB]
 refine Qe (hK20 _ _ _ (Qd fun K21 hK21 => Qc (Pm ?_)))
 refine Pa (Ga underlying150 sizeOf9) ?_
 refine Pa (La o9) ?_
 refine Pa (Yv underlying9 rfl) ?_
 refine Ra call147 (QcU b (some ⟨b, 0, none⟩) v1 false (bs ++ [115]) s.length (.inr rfl) hh1 (by simp; omega) hs0) ?_
 rintro r R' L' hR ⟨rfl, v2, hh2, rfl⟩
 obtain ⟨base, hbase⟩ : ∃ base, base = bs ++ [115] ++ Xt s.length := ⟨_, rfl⟩
 have hbl2 : base.length ≤ 16777300 := by rw [hbase]; simp; omega
 have hwr : bs ++ wr (.mk 1 n s l) = base ++ s := by rw [hbase, wr]; simp
 rw [← hbase]
 try simp only [cB]
 refine Qe (hK21 _ _ _ (Qd fun K22 hK22 => Qd fun K23 hK23 => ?_))
 refine Xr (by kernel_rfl) (by kernel_rfl) ?_
 refine Qa (Qg rfl) ?_
 refine Qa (Qf rfl) ?_
 refine Qa (Ga underlying209 sizeOf207) ?_
 refine Qa (Ca call137 (QfJ b _ v2 false base)) ?_
 refine Qa (Ga underlying150 sizeOf9) ?_
 refine Qa (La o9) ?_
 refine Qa (Yv underlying9 rfl) ?_
 refine Qa (Qt rfl rfl om_) ?_
 refine Qa (Xs rfl rfl) ?_
 refine Xb ?_
 refine hK23 _ _ _ ?_
 refine Ql (eL 0 rfl (eL 3 rfl (eL 97 rfl eN))) ?_
 refine Qm rfl (fun hc97 => ?_) (fun hc97 => ?_)
 try simp only [dx] at hc97
 refine Qd fun K25 hK25 => Qc (Pm ?_)
 refine Pa (Qf rfl) ?_
 refine Pa (Ga underlying209 sizeOf4) ?_
 refine Sa o4 ?_
 refine Qe (hK25 _ _ _ ?_)
 refine Ql eN ?_
 refine Qi (hret _ _ _ ?_)
 refine Ea results136 .nil [wB b (some ⟨b, 0, none⟩) v2 true, wS v2 base] le_ ?_
 refine ⟨rfl, some ⟨b, 0, none⟩, v2, true, base, .inr rfl, hh2, rfl, fun h => (by cases h), fun h => (by cases h), fun _ _ => by rw [hwr, List.length_append]; (try simp at hc97); omega, .inr (by omega)⟩
 try simp only [dx] at hc97
 refine Qj (hK22 _ _ _ ?_)
 refine jL [0, 1, 2, 3, 4] [] [5] (by kernel_rfl) (by kernel_rfl) (by kernel_rfl) rfl ?_
 refine Wa rfl (fun R1 hR1 G => (Qg rfl)) ?_
 refine Wa rfl (fun R1 hR1 G => (Qf rfl)) ?_
 refine Wa rfl (fun R1 hR1 G => (Ga underlying209 sizeOf207)) ?_
 refine Wa rfl (fun R1 hR1 G => (Ga underlying150 sizeOf9)) ?_
 refine Wa rfl (fun R1 hR1 G => (La o9)) ?_
 refine Xc ?_
 refine Xe ?_
 try simp only [cC]
 refine Ra call148 (Qd5 b _ v2 false base s (.inr rfl) hh2 (by omega) (by (try simp at hc97); omega)) ?_
 rintro r R' L' hR ⟨rfl, v3, hh3, rfl⟩
 try simp only [cB]
 refine Qe (hend _ _ _ ?_)
 apply QD results136 .nil _ [wB b (some ⟨b, 0, none⟩) v3 false, wS v3 (base ++ s)] le_ rfl
 case hp => exact ⟨rfl, some ⟨b, 0, none⟩, v3, false, base ++ s, .inr rfl, hh3, rfl, fun h => (by cases h), fun _ => hwr.symm, fun _ h => (by cases h), .inr (by (try simp at hc97 ⊢); omega)⟩
 case hS => exact sb_
 try simp only [dx] at hc78
 refine Qd fun K26 hK26 => Qc (Pm ?_)
 refine Pa (Qf rfl) ?_
 refine Pa (Ga underlying209 sizeOf207) ?_
 refine Ra call146 (ZQ b q v false bs 108 hq hh (by omega)) ?_
 rintro r R' L' hR ⟨rfl, v1, hh1, rfl⟩
 try simp only [cB]
 refine Qe (hK26 _ _ _ (Qd fun K27 hK27 => Qc (Pm ?_)))
 refine Pa (Ga underlying150 sizeOf148) ?_
 refine Pa (La Ys) ?_
 refine Pa (QR underlying148 rfl) ?_
 refine Ra call147 (QcU b (some ⟨b, 0, none⟩) v1 false (bs ++ [108]) l.length (.inr rfl) hh1 (by simp; omega) hl0) ?_
 rintro r R' L' hR ⟨rfl, v2, hh2, rfl⟩
 obtain ⟨base, hbase⟩ : ∃ base, base = bs ++ [108] ++ Xt l.length := ⟨_, rfl⟩
 have hbl2 : base.length ≤ 16777300 := by rw [hbase]; simp; omega
 have hwr : bs ++ wr (.mk k n s l) = base ++ wrs l := by rw [hbase, wr, if_neg (by simpa using hc48), if_neg (by simpa using hc78)]; simp
 rw [← hbase]
 try simp only [cB]
 refine Qe (hK27 _ _ _ (Qd fun K28 hK28 => Qc ?_))
 refine Pa (Ga underlying150 sizeOf148) ?_
 refine Pa (La Ys) ?_
 refine Pa (QR underlying148 rfl) (Pm (Qe (hK28 _ _ _ (Qp ?_))))
 refine Ql (E' := (fun (x : Nat × Option Addr × Value × Bool × List UInt8) => [(0, .pointer (some ⟨b, 0, none⟩)), (38, .slice sq l.length cap), (39, .int .i64 (l.length : Int)), (40, .int .i64 (x.1 : Int))]) (0, some ⟨b, 0, none⟩, v2, false, base)) (eC rfl (eC rfl (eC rfl (eC rfl eN)))) ?_
 refine Xi (M := (fun (x : Nat × Option Addr × Value × Bool × List UInt8) => wB b x.2.1 x.2.2.1 x.2.2.2.1 :: wS x.2.2.1 x.2.2.2.2 :: F) (0, some ⟨b, 0, none⟩, v2, false, base)) sb_ ?_
 refine QY (fun (x : Nat × Option Addr × Value × Bool × List UInt8) => [(0, .pointer (some ⟨b, 0, none⟩)), (38, .slice sq l.length cap), (39, .int .i64 (l.length : Int)), (40, .int .i64 (x.1 : Int))]) (fun (x : Nat × Option Addr × Value × Bool × List UInt8) => R) (fun (x : Nat × Option Addr × Value × Bool × List UInt8) => wB b x.2.1 x.2.2.1 x.2.2.2.1 :: wS x.2.2.1 x.2.2.2.2 :: F) (fun (x : Nat × Option Addr × Value × Bool × List UInt8) => x.1 ≤ l.length ∧ QaT b x.2.1 ∧ YS x.2.2.1 ∧ (x.2.2.2.1 = false → x.2.2.2.2 = base ++ wrs (l.take x.1)) ∧ (x.2.2.2.1 = true → 16777216 < (base ++ wrs (l.take x.1)).length) ∧ x.2.2.2.2.length ≤ 16777316) (fun (x : Nat × Option Addr × Value × Bool × List UInt8) => l.length - x.1) (0, some ⟨b, 0, none⟩, v2, false, base) (⟨by simp, .inr rfl, hh2, fun _ => by simp [wrs], fun h => (by cases h), by dsimp only; omega⟩) ?_
 rintro ⟨i, qi, vi, badi, bsi⟩ ⟨hi, hqi, hhi, hki, hbi, hli⟩
 try dsimp only
 dsimp only at hi hqi hhi hki hbi hli
 refine Qd fun K29 hK29 => Qc ?_
 refine Pa (QO rfl rfl) (Qe (hK29 _ _ _ (Qd fun K30 hK30 => ?_)))
 refine Qm rfl (fun hc41 => ?_) (fun hc41 => ?_)
 try simp only [dx] at hc41
 refine Qj (hK30 _ _ _ (Qd fun K32 hK32 => Qp (Qd fun K33 hK33 => Qc ?_)))
 obtain ⟨x1, hx1⟩ : ∃ x, l[i]? = some x := ⟨l[i]'(by omega), by simp⟩
 obtain ⟨bb, off, cs, rfl, hc4, hrep, hcell⟩ := hl.at hx1
 have hm1 := List.mem_of_getElem? hx1
 obtain ⟨k1, n1, s1, l1, q1, cap1, rfl, rfl, hs1, hl1⟩ := hrep.inv
 refine Pa (Qy underlying148 sizeOf150 rfl rfl om_) ?_
 refine Pa ((XT Qw hc4 rfl (fun j u hj => by simpa using hcell j u hj))) ?_
 refine QA (wn0 rfl) rfl zeroValue150 rfl (fun b7 => ?_)
 refine Qu Qw rfl (wn0 rfl) rfl rfl (by (first | (simp [Value.oneCell']; done) | (intro u hu; simp only [List.mem_cons, List.not_mem_nil, or_false] at hu; rcases hu with rfl | rfl | rfl | rfl <;> first | rfl | assumption))) fd_ (by (simp)) rfl ?_
 refine Qe (hK33 _ _ _ ?_)
 refine Ql (eL 0 rfl (eL 7 rfl (eL 38 rfl (eL 39 rfl (eL 40 rfl eN))))) ?_
 refine Qc (Pm ?_)
 refine Pa (Lb Qw) ?_
 refine Ra call136 (ih (SizeOf.sizeOf (Nd.mk k1 n1 s1 l1)) (by have := List.sizeOf_lt_of_mem hm1; simp at hN this ⊢; omega) _ _ b qi vi badi bsi (Nat.le_refl _) hrep (hkids _ hm1) hqi hhi hli) ?_
 rintro r R' L' hR ⟨rfl, q', v', bad', bs', hq', hh', rfl, w1, w2, w3, w4⟩
 have w5 : bad' = false → badi = false := fun h => by cases hb : badi; rfl; have hw := w1 hb; rw [hw] at h; cases h
 have w6 : bad' = true → 16777216 < (base ++ wrs (l.take (i + 1))).length := fun h => by cases hb : badi; have := w3 hb h; rw [hki hb] at this; rw [zp hx1, ← List.append_assoc]; exact this; have := hbi hb; rw [zp hx1]; simp at this ⊢; omega
 try simp only [cB]
 refine Qe (hK32 _ _ _ (Qc ?_))
 refine Pa (Qt rfl rfl om_) (Pm (Qe ?_))
 refine Xl (q' := QS _ _ _ _ _ _ _) rfl ?_
 refine QC ((i + 1, q', v', bad', bs')) (⟨by dsimp only; omega, hq', hh', fun hf => by dsimp only at hf ⊢; rw [w2 hf, hki (w5 hf), zp hx1, List.append_assoc], fun ht => w6 ht, by dsimp only; omega⟩) (by dsimp only; omega) (eC rfl (eC rfl (eC rfl (eC rfl eN)))) rfl sb_
 try simp only [dx] at hc41
 refine QL (hend _ _ _ ?_)
 apply QD results136 .nil _ [wB b qi vi badi, wS vi bsi] le_ rfl
 case hp =>
  refine ⟨rfl, qi, vi, badi, bsi, hqi, hhi, rfl, fun h => (by cases h), fun h => ?_, fun _ h => ?_, .inr hli⟩
  ·rw [hwr, hki h, List.take_of_length_le (by omega)]
  ·rw [hwr]; have := hbi h; rwa [List.take_of_length_le (by omega)] at this
 case hS => exact sb_
noncomputable def Yk (x : Nd) : List UInt8 × Bool := if Xf 20 x = true ∧ (wr x).length ≤ 16777216 then (wr x, true) else ([], false)
theorem Qk7 {R : Hp} (x : Nd) (cx : List Value) (hx : RepN R x cx) (hok : OkN x) : QTri prog 122 [.agg ⟨cx⟩] R [] (.tuple #[.string (str (Yk x).1), .bool (Yk x).2]) := by
 obtain ⟨k, n, s, l, q, cap, rfl, rfl, hs, hl⟩ := hx.inv
 obtain ⟨x, hxe⟩ : ∃ x, x = Nd.mk k n s l := ⟨_, rfl⟩
 have h2 := Qh9 x
 refine Tri.q ?_
 refine Qn func122 rfl ntmps122 rfl (fun σ F Q hret hend hpan => ?_)
 try simp only [cB]
 refine Qd fun K1 hK1 => Qc ?_
 refine Xa (wn0 rfl) rfl rfl rfl (fun b1 => ?_)
 refine Ps (Ps (Qe (hK1 _ _ _ (Qd fun K2 hK2 => Qd fun K3 hK3 => Qc ?_))))
 refine Pa (Lb Qw) ?_
 refine Pa (Ca call135 (Qi3 _ _ hx)) ?_
 refine Pa (Yq rfl) (Qe (hK3 _ _ _ ?_))
 refine Qm rfl (fun hc7 => ?_) (fun hc7 => ?_)
 (try simp only [dx] at hc7); have hr : ¬ Xf 20 x = true := by rw [hxe]; simpa using hc7
 refine Qd fun K5 hK5 => Qc (Ps (Ps (Qe (hK5 _ _ _ (Qi (hret _ _ _ ?_))))))
 refine Ea results122 (.cons (Qh rfl) (.cons (Qh rfl) .nil)) [] le_ ?_
 rw [← hxe, show Yk x = ([], false) by unfold Yk; rw [if_neg (fun h => hr h.1)]]; exact ⟨rfl, rfl, rfl⟩
 (try simp only [dx] at hc7); have hr : Xf 20 x = true := by rw [hxe]; simpa using hc7
 refine Qj (hK2 _ _ _ (Qd fun K6 hK6 => Qc ?_))
 refine QA (wn0 rfl) rfl zeroValue209 rfl (fun bw => ?_)
 refine YR (A := wS (.slice none 0 0) []) (Yr _ _) ?_
 refine Qe (hK6 _ _ _ (Qd fun K7 hK7 => Qc ?_))
 refine Pa (Lb Qw) ?_
 refine Ra call136 (Qk9 _ _ _ bw none (.slice none 0 0) false [] (Nat.le_refl _) hx hok (.inl rfl) QhS (by simp)) ?_
 rintro r R' L' hR ⟨rfl, q', v', bad', bs', hq', hh', rfl, w1, w2, w3, w4⟩
 rw [← hxe] at w2 w3
 simp only [List.nil_append] at w2 w3
 try simp only [cB]
 refine Qe (hK7 _ _ _ (Qd fun K8 hK8 => Qd fun K9 hK9 => Qc ?_))
 refine Pa (Ga underlying209 sizeOf4) ?_
 refine Pa (La o4) (Pm ?_)
 refine QE 12 rfl (fun hg12 => ?_) (fun hg12 => ?_)
 (try simp only [dx] at hg12); have hr2 : ¬ (wr x).length ≤ 16777216 := by have := w3 trivial (by simpa using hg12); omega
 refine Pk (Pk (Pk ?_))
 refine Pa (Qr rfl rfl) (Qe (hK9 _ _ _ (Qv rfl (Qd fun K10 hK10 => Qc ?_))))
 refine Ps (Ps (Qe (hK10 _ _ _ (Qi (hret _ _ _ ?_)))))
 refine Ea results122 (.cons (Qh rfl) (.cons (Qh rfl) .nil)) [] le_ ?_
 rw [← hxe, show Yk x = ([], false) by unfold Yk; rw [if_neg (fun h => hr2 h.2)]]; exact ⟨rfl, rfl, rfl⟩
 (try simp only [dx] at hg12); have e1 : bs' = wr x := w2 (by simpa using hg12)
 subst e1
 refine Pb (Ga underlying209 sizeOf207) ?_
 refine Pb (Ca call137 (QfJ bw q' v' bad' (wr x))) ?_
 refine Pb (Xs rfl rfl) ?_
 refine Pa (Qo rfl rfl) (Qe (hK9 _ _ _ ?_))
 refine Ql (eL 4 rfl (eL 16 rfl eN)) ?_
 refine Qm rfl (fun hc16 => ?_) (fun hc16 => ?_)
 try simp only [dx] at hc16
 refine Qd fun K12 hK12 => Qc (Ps (Ps (Qe (hK12 _ _ _ (Qi (hret _ _ _ ?_))))))
 refine Ea results122 (.cons (Qh rfl) (.cons (Qh rfl) .nil)) [] le_ ?_
 rw [← hxe, show Yk x = ([], false) by unfold Yk; rw [if_neg (fun h => by have := h.2; (try simp at hc16); omega)]]; exact ⟨rfl, rfl, rfl⟩
 try simp only [dx] at hc16
 refine Qj (hK8 _ _ _ (Qd fun K13 hK13 => Qc ?_))
 refine Pa (Ga underlying209 sizeOf207) ?_
 refine Ra call138 (Qjo bw q' v' bad' (wr x) hh' (by omega) (by (try simp at hc16); omega)) ?_
 rintro r R' L' hR ⟨rfl, rfl, rfl⟩
 try simp only [cB]
 refine Ps (Ps (Qe (hK13 _ _ _ (Qi (hret _ _ _ ?_)))))
 refine Ea results122 (.cons (Qh rfl) (.cons (Qh rfl) .nil)) [] le_ ?_
 rw [← hxe, show Yk x = (wr x, true) by unfold Yk; rw [if_pos ⟨hr, by (try simp at hc16); omega⟩]]; exact ⟨rfl, rfl, rfl⟩
@[reducible] def rB (b : Nat) (s : List UInt8) (bad : Bool) : Asn := blk b [.string (str s), .bool bad] 174
def Xx (s : List UInt8) (bad : Bool) (n : Nat) : List UInt8 × List UInt8 × Bool := if bad = true ∨ s.length < n then ([], s, true) else (s.take n, s.drop n, false)
theorem QaC (s : List UInt8) (n : Nat) : Xx s true n = ([], s, true) := by simp [Xx]
theorem jz {R : Hp} (b : Nat) (s : List UInt8) (bad : Bool) (n : Nat) (hs : s.length ≤ big) (hn : n ≤ big) : Tri prog 115 [.pointer (some ⟨b, 0, none⟩), .int .i64 (n : Int)] R [rB b s bad]
  (fun r R' L' => R = R' ∧ r = .string (str (Xx s bad n).1) ∧ L' = [rB b (Xx s bad n).2.1 (Xx s bad n).2.2]) := by
 unfold big at hs hn
 refine Qn func115 rfl ntmps115 rfl (fun σ F Q hret hend hpan => ?_)
 try simp only [cB]
 refine Qd fun K1 hK1 => Qc (Ps (Qe (hK1 _ _ _ (Qd fun K2 hK2 => Qd fun K3 hK3 => Qc ?_))))
 refine Pm ?_
 refine Pa (Qf rfl) ?_
 refine Pa (Ga underlying174 sizeOf4) ?_
 refine Pa (La o4) (Pm ?_)
 refine QE 10 rfl (fun hg10 => ?_) (fun hg10 => ?_)
 subst hg10
 refine Pk (Pk (Pk (Pk (Pk (Pk (Pk ?_))))))
 refine Pa (Qr rfl rfl) (Qe (hK3 _ _ _ (Qv rfl (Qd fun K4 hK4 => Qc ?_))))
 refine Pm ?_
 refine Pa (Qf rfl) ?_
 refine Pa (Ga underlying174 sizeOf4) ?_
 refine Sa o4 ?_
 refine Qe (hK4 _ _ _ ?_)
 refine Ql eN ?_
 refine Qd fun K5 hK5 => Qc (Ps (Qe (hK5 _ _ _ (Qi (hret _ _ _ ?_)))))
 refine Ea results115 (.cons (Qh rfl) .nil) [rB b s true] le_ ?_
 rw [show Xx s true n = ([], s, true) from QaC s n]; exact ⟨rfl, rfl, rfl⟩
 subst hg10
 refine Pb (Qg rfl) ?_
 refine Pb (Qg rfl) ?_
 refine Pb (Qf rfl) ?_
 refine Pb (Ga underlying174 sizeOf9) ?_
 refine Pb (La o9) ?_
 refine Pb (Yv underlying9 rfl) ?_
 refine Pb (Xs rfl rfl) ?_
 refine Pa (Qo rfl rfl) (Qe (hK3 _ _ _ ?_))
 refine Ql (eL 0 rfl (eL 1 rfl (eL 18 rfl eN))) ?_
 refine Qm rfl (fun hc18 => ?_) (fun hc18 => ?_)
 try simp only [dx] at hc18
 refine Qd fun K7 hK7 => Qc (Pm ?_)
 refine Pa (Qf rfl) ?_
 refine Pa (Ga underlying174 sizeOf4) ?_
 refine Sa o4 ?_
 refine Qe (hK7 _ _ _ ?_)
 refine Ql eN ?_
 refine Qd fun K8 hK8 => Qc (Ps (Qe (hK8 _ _ _ (Qi (hret _ _ _ ?_)))))
 refine Ea results115 (.cons (Qh rfl) .nil) [rB b s true] le_ ?_
 rw [show Xx s false n = ([], s, true) by unfold Xx; rw [if_pos (.inr (by simp at hc18; omega))]]; exact ⟨rfl, rfl, rfl⟩
 try simp only [dx] at hc18
 refine Qj (hK2 _ _ _ (Qd fun K9 hK9 => Qc (Pm ?_)))
 refine Pa (Qf rfl) ?_
 refine Pa (Ga underlying174 sizeOf9) ?_
 refine Pa (La o9) (Pm ?_)
 refine Pa (Qav underlying9 rfl rfl om_) (Ps (Qe (hK9 _ _ _ (Qd fun K10 hK10 => Qc ?_))))
 refine Pm (Pm ?_)
 refine Pa (Qf rfl) ?_
 refine Pa (Ga underlying174 sizeOf9) ?_
 refine Pa (La o9) (Pm ?_)
 refine Pa (Qau underlying9 rfl rfl om_) ?_
 refine Pa (Qf rfl) ?_
 refine Pa (Ga underlying174 sizeOf9) ?_
 refine Sa o9 ?_
 refine Qe (hK10 _ _ _ ?_)
 refine Ql (eL 5 rfl eN) ?_
 refine Qd fun K11 hK11 => Qc (Pm (Ps (Qe (hK11 _ _ _ (Qi (hret _ _ _ ?_))))))
 refine Ea results115 (.cons (Qh rfl) .nil) [rB b (s.drop n) false] le_ ?_
 rw [show Xx s false n = (s.take n, s.drop n, false) by unfold Xx; rw [if_neg (by simp at hc18 ⊢; omega)]]; exact ⟨rfl, rfl, rfl⟩
theorem Qny (u : UInt8) : QcN .u8 (u.toNat : Int) 127 = ((u.toNat % 128 : Nat) : Int) := by
 have key : ∀ A : Fin 256, QcN .u8 ((A.val : Nat) : Int) 127 = ((A.val % 128 : Nat) : Int) := by decide +kernel
 exact key ⟨u.toNat, u.toNat_lt⟩
theorem QiR (A B s : Nat) (hA : A < 2 ^ s) (h : A + B * 2 ^ s < 9223372036854775808) : qu .i64 ((A : Nat) : Int) ((B * 2 ^ s : Nat) : Int) = ((A + B * 2 ^ s : Nat) : Int) := by
 have h2 : (BitVec.ofInt 64 (A : Int) ||| BitVec.ofInt 64 ((B * 2 ^ s : Nat) : Int)).toNat = A + B * 2 ^ s := by
  simp only [BitVec.ofInt_natCast, BitVec.toNat_or, BitVec.toNat_ofNat]
  rw [Nat.mod_eq_of_lt (by omega), Nat.mod_eq_of_lt (by omega)]
  have := Nat.two_pow_add_eq_or_of_lt (i := s) (b := A) hA B
  rw [Nat.mul_comm B, Nat.or_comm, ← this]; omega
 have h3 : qu .i64 ((A : Nat) : Int) ((B * 2 ^ s : Nat) : Int) = IntKind.i64.wrap ((A + B * 2 ^ s : Nat) : Int) := by rw [← h2]; rfl
 rw [h3]
 exact ZA ⟨by omega, by omega⟩
theorem Qbb (m j : Nat) (z : Int) (hz : z = j) (hj : j ≤ 63) (h : m * 2 ^ j < 9223372036854775808) : IntKind.i64.wrap ((m : Int) * 2 ^ min z.toNat IntKind.i64.bits) = ((m * 2 ^ j : Nat) : Int) := by
 subst hz
 have : min (j : Int).toNat IntKind.i64.bits = j := by simp only [IntKind.bits, Int.toNat_natCast]; omega
 rw [this]
 have e : ((m : Int) * 2 ^ j) = ((m * 2 ^ j : Nat) : Int) := by rw [Int.natCast_mul, Int.natCast_pow]; rfl
 rw [e]
 exact ZA ⟨by omega, by omega⟩
theorem QfT {s : List UInt8} (h : (Xx s false 1).2.2 = true) : s = [] := by
 cases s with
 | nil => rfl
 | cons u r => simp [Xx] at h
theorem QfU {s : List UInt8} (h : (Xx s false 1).2.2 = false) : ∃ u r, s = u :: r := by
 cases s with
 | nil => simp [Xx] at h
 | cons u r => exact ⟨u, r, rfl⟩
theorem zK (u : UInt8) (r : List UInt8) : Xx (u :: r) false 1 = ([u], r, false) := by simp [Xx]
theorem Qhp {R : Hp} (b : Nat) (s : List UInt8) (hs : s.length ≤ big) : Tri prog 116 [.pointer (some ⟨b, 0, none⟩)] R [rB b s true]
  (fun r R' L' => R = R' ∧ r = .int .i64 0 ∧ L' = [rB b s true]) := by
 refine Qn func116 rfl ntmps116 rfl (fun σ F Q hret hend hpan => ?_)
 try simp only [cB]
 refine Qd fun K1 hK1 => Qc (Ps (Qe (hK1 _ _ _ (Qd fun K2 hK2 => Qc ?_))))
 refine Ps (Qe (hK2 _ _ _ (Qd fun K3 hK3 => Qd fun K4 hK4 => Qc ?_)))
 refine Pm (Qe (hK4 _ _ _ (Qp ?_)))
 refine QfE ?_
 refine Qd fun K5 hK5 => Qc ?_
 refine Pa (QO rfl rfl) (Qe (hK5 _ _ _ (Qd fun K6 hK6 => Qv rfl (Qj (hK6 _ _ _ (Qd fun K7 hK7 => Qp (Qd fun K8 hK8 => Qc ?_)))))))
 refine Pm (Ps (Qe (hK8 _ _ _ (Qd fun K9 hK9 => Qc ?_))))
 refine Pm ?_
 refine Ra call115 (jz b s true 1 hs (by decide)) ?_
 rintro r R' L' hR ⟨rfl, rfl, rfl⟩
 rw [QaC]
 try simp only [cB]
 refine Ps (Qe (hK9 _ _ _ (Qd fun K10 hK10 => Qd fun K11 hK11 => Qc ?_)))
 refine Pm ?_
 refine Pa (Qf rfl) ?_
 refine Pa (Ga underlying174 sizeOf4) ?_
 refine Pa (La o4) (Qe (hK11 _ _ _ ?_))
 refine Qm rfl (fun hc14 => ?_) (fun hc14 => ?_)
 try simp only [dx] at hc14
 refine Qd fun K13 hK13 => Qc (Ps (Qe (hK13 _ _ _ (Qi (hret _ _ _ ?_)))))
 refine Ea results116 (.cons (Qh rfl) .nil) [rB b s true] le_ ?_
 exact ⟨rfl, rfl, rfl⟩
 ·cases hc14
def Qk5 (s : List UInt8) (r : Value) (m : Nat) (s' : List UInt8) (bad' : Bool) : Prop :=
 r = .int .i64 (m : Int) ∧ s'.length ≤ s.length ∧ m < 268435456 ∧ (∀ n q, szM 4 0 0 s = some (n, q) → m = n ∧ s' = q ∧ bad' = false) ∧ (szM 4 0 0 s = none → bad' = true)
theorem Qcl {s r1 : List UInt8} {i acc : Nat} {u : UInt8} (hsz : szM 4 0 0 s = if u.toNat = 0 ∧ i > 0 then none else some (acc + u.toNat * 128 ^ i, r1)) (hu : u.toNat < 128) (hl : r1.length ≤ s.length)
  (hm : acc + u.toNat % 128 * 2 ^ (7 * i) < 268435456) {bad : Bool} (hb : bad = decide (u.toNat = 0 ∧ i > 0)) : Qk5 s (.int .i64 ((acc + u.toNat % 128 * 2 ^ (7 * i) : Nat) : Int)) (acc + u.toNat % 128 * 2 ^ (7 * i)) r1 bad := by
 have e : acc + u.toNat % 128 * 2 ^ (7 * i) = acc + u.toNat * 128 ^ i := by rw [Nat.pow_mul, Nat.mod_eq_of_lt hu]
 refine ⟨rfl, hl, hm, fun n q h => ?_, fun h => ?_⟩
 ·rw [hsz] at h
  split at h
  ·cases h
  ·rename_i hc
   simp only [Option.some.injEq, Prod.mk.injEq] at h
   exact ⟨by rw [e, h.1], h.2, by rw [hb]; exact decide_eq_false hc⟩
 ·rw [hsz] at h
  split at h
  ·rename_i hc; rw [hb]; exact decide_eq_true hc
  ·cases h
theorem Qlx {R : Hp} (b : Nat) (s : List UInt8) (hs : s.length ≤ big) : Tri prog 116 [.pointer (some ⟨b, 0, none⟩)] R [rB b s false]
  (fun r R' L' => R = R' ∧ ∃ m s' bad', Qk5 s r m s' bad' ∧ L' = [rB b s' bad']) := by
 refine Qn func116 rfl ntmps116 rfl (fun σ F Q hret hend hpan => ?_)
 try simp only [cB]
 refine Qd fun K1 hK1 => Qc (Ps (Qe (hK1 _ _ _ (Qd fun K2 hK2 => Qc ?_))))
 refine Ps (Qe (hK2 _ _ _ (Qd fun K3 hK3 => Qd fun K4 hK4 => Qc ?_)))
 refine Pm (Qe (hK4 _ _ _ (Qp ?_)))
 refine Ql (E' := (fun (x : Nat × Nat × List UInt8) => [(0, .pointer (some ⟨b, 0, none⟩)), (3, .int .i64 (x.2.1 : Int)), (6, .int .i64 (x.1 : Int))]) (0, 0, s)) (eC rfl (eC rfl (eC rfl eN))) ?_
 refine Xi (M := (fun (x : Nat × Nat × List UInt8) => rB b x.2.2 false :: F) (0, 0, s)) sb_ ?_
 refine QY (fun (x : Nat × Nat × List UInt8) => [(0, .pointer (some ⟨b, 0, none⟩)), (3, .int .i64 (x.2.1 : Int)), (6, .int .i64 (x.1 : Int))]) (fun (x : Nat × Nat × List UInt8) => R) (fun (x : Nat × Nat × List UInt8) => rB b x.2.2 false :: F) (fun (x : Nat × Nat × List UInt8) => x.1 ≤ 4 ∧ x.2.1 < 128 ^ x.1 ∧ szM 4 0 0 s = szM (4 - x.1) x.1 x.2.1 x.2.2 ∧ x.2.2.length ≤ s.length) (fun (x : Nat × Nat × List UInt8) => 4 - x.1) (0, 0, s) (⟨by simp, by simp, rfl, Nat.le_refl _⟩) ?_
 rintro ⟨i, acc, s1⟩ ⟨hi, ha, hz, hl⟩
 try dsimp only
 dsimp only at hi ha hz hl
 refine Qd fun K5 hK5 => Qc ?_
 refine Pa (QO rfl rfl) (Qe (hK5 _ _ _ (Qd fun K6 hK6 => ?_)))
 refine Qm rfl (fun hc7 => ?_) (fun hc7 => ?_)
 try simp only [dx] at hc7
 refine Qj (hK6 _ _ _ (Qd fun K8 hK8 => Qp (Qd fun K9 hK9 => Qc ?_)))
 obtain ⟨f, hf⟩ : ∃ f, 4 - i = f + 1 := ⟨3 - i, by omega⟩
 have h7 : (2 : Nat) ^ (7 * i) = 128 ^ i := by rw [Nat.pow_mul]
 have hp : 128 ^ i ≤ 128 ^ 3 := Nat.pow_le_pow_right (by omega) (by omega)
 have hp3 : (128 : Nat) ^ 3 = 2097152 := by decide
 refine Pm (Ps (Qe (hK9 _ _ _ (Qd fun K10 hK10 => Qc ?_))))
 refine Pm ?_
 refine Ra call115 (jz b s1 false 1 (Nat.le_trans hl hs) (by decide)) ?_
 rintro r R' L' hR ⟨rfl, rfl, rfl⟩
 try simp only [cB]
 refine Ps (Qe (hK10 _ _ _ (Qd fun K11 hK11 => Qd fun K12 hK12 => Qc ?_)))
 refine Pm ?_
 refine Pa (Qf rfl) ?_
 refine Pa (Ga underlying174 sizeOf4) ?_
 refine Pa (La o4) (Qe (hK12 _ _ _ ?_))
 refine Qm rfl (fun hc14 => ?_) (fun hc14 => ?_)
 obtain rfl := QfT hc14
 rw [show Xx [] false 1 = ([], [], true) by simp [Xx]]
 refine Qd fun K14 hK14 => Qc (Ps (Qe (hK14 _ _ _ (Qi (hret _ _ _ ?_)))))
 refine Ea results116 (.cons (Qh rfl) .nil) [rB b [] true] le_ ?_
 refine ⟨rfl, 0, [], true, ⟨rfl, by simp, by decide, fun n q h => ?_, fun _ => rfl⟩, rfl⟩
 rw [hz, hf] at h; cases h
 obtain ⟨u, r1, rfl⟩ := QfU hc14
 rw [zK]
 have hm1 : u.toNat % 128 * 2 ^ (7 * i) ≤ 127 * 128 ^ i := by rw [h7]; exact Nat.mul_le_mul_right _ (by omega)
 have hul := u.toNat_lt
 refine Qj (hK11 _ _ _ (Qd fun K15 hK15 => Qc (Pm (Pm ?_))))
 refine Pa (Yx underlying9 rfl rfl om_) ?_
 refine Xg 17 rfl (v' := .int .u8 (u.toNat : Int)) rfl ?_
 refine Pa (QnB rfl rfl) ?_
 refine Xg 18 rfl (congrArg _ (Qny u)) ?_
 refine Pa (Xp underlying5 underlying3 rfl (by (simp only [IntKind.min, IntKind.max, IntKind.signed, IntKind.bits, Bool.false_eq_true, ite_false, ite_true]; omega))) ?_
 refine Pm ?_
 refine Pa (jr rfl rfl om_) ?_
 refine Pa (Qce rfl rfl om_) ?_
 refine Xg 22 rfl (congrArg _ (Qbb (u.toNat % 128) (7 * i) _ (by omega) (by omega) (by omega))) ?_
 refine Pa (QcT rfl rfl) ?_
 refine Xg 23 rfl (congrArg _ (QiR acc (u.toNat % 128) (7 * i) (by rw [h7]; exact ha) (by omega))) ?_
 refine Ps (Qe (hK15 _ _ _ ?_))
 refine Ql (eL 0 rfl (eL 3 rfl (eL 4 rfl (eL 5 rfl (eL 6 rfl eN))))) ?_
 refine Qd fun K16 hK16 => Qc (Pm ?_)
 refine Pa (Yx underlying9 rfl rfl om_) ?_
 refine Xg 25 rfl (v' := .int .u8 (u.toNat : Int)) rfl ?_
 refine Pa (QO rfl rfl) (Qe (hK16 _ _ _ ?_))
 refine Qm rfl (fun hc26 => ?_) (fun hc26 => ?_)
 (try simp only [dx] at hc26)
 have hsz : szM 4 0 0 s = if u.toNat = 0 ∧ i > 0 then none else some (acc + u.toNat * 128 ^ i, r1) := by rw [hz, hf, szM, if_pos (by (try simp at hc26); omega)]
 refine Qd fun K18 hK18 => Qc (Pm (Pm ?_))
 refine Pa (Yx underlying9 rfl rfl om_) ?_
 refine Xg 29 rfl (v' := .int .u8 (u.toNat : Int)) rfl ?_
 refine Pa (QB rfl rfl) (Pm ?_)
 refine QE 31 rfl (fun hg31 => ?_) (fun hg31 => ?_)
 (try simp only [dx] at hg31)
 refine Pb (Qg rfl) ?_
 refine Pb (Xs rfl rfl) ?_
 refine Pa (Qr rfl rfl) ?_
 refine Pa (Qf rfl) ?_
 refine Pa (Ga underlying174 sizeOf4) ?_
 refine Sa o4 ?_
 refine Qe (hK18 _ _ _ (Qd fun K19 hK19 => Qc (Pm (Ps (Qe (hK19 _ _ _ (Qi (hret _ _ _ ?_))))))))
 refine Ea results116 (.cons (Qh rfl) .nil) [rB b r1 (decide ((i : Int) > 0))] le_ ?_
 exact ⟨rfl, _, r1, _, Qcl hsz (by (try simp at hc26); omega) (by simp at hl; omega) (by omega) (by (try simp at hg31); simp; omega), rfl⟩
 (try simp only [dx] at hg31)
 refine Pk (Pk ?_)
 refine Pa (Qo rfl rfl) ?_
 refine Pa (Qf rfl) ?_
 refine Pa (Ga underlying174 sizeOf4) ?_
 refine Sa o4 ?_
 refine Qe (hK18 _ _ _ ?_)
 refine Ql (eL 3 rfl eN) ?_
 refine Qd fun K20 hK20 => Qc (Pm (Ps (Qe (hK20 _ _ _ (Qi (hret _ _ _ ?_))))))
 refine Ea results116 (.cons (Qh rfl) .nil) [rB b r1 false] le_ ?_
 exact ⟨rfl, _, r1, _, Qcl hsz (by (try simp at hc26); omega) (by simp at hl; omega) (by omega) (by (try simp at hg31); simp; omega), rfl⟩
 try simp only [dx] at hc26
 refine Qj (hK8 _ _ _ (Qc ?_))
 refine Pa (Qt rfl rfl om_) (Pm (Qe ?_))
 refine Xl (q' := QS _ _ _ _ _ _ _) rfl ?_
 refine QC ((i + 1, acc + u.toNat % 128 * 2 ^ (7 * i), r1)) (⟨by dsimp only; omega, by dsimp only; rw [Nat.pow_succ]; omega, by dsimp only; rw [hz, hf, szM, if_neg (by (try simp at hc26); omega), h7, show u.toNat % 128 = u.toNat - 128 by have := u.toNat_lt; simp at hc26; omega]; congr 1; omega, by dsimp only; simp at hl; omega⟩) (by dsimp only; omega) (eC rfl (eC rfl (eC rfl eN))) rfl sb_
 try simp only [dx] at hc7
 refine QL (hK3 _ _ _ (Qd fun K21 hK21 => Qc (Pm ?_)))
 refine Pa (Qf rfl) ?_
 refine Pa (Ga underlying174 sizeOf4) ?_
 refine Sa o4 ?_
 refine Qe (hK21 _ _ _ ?_)
 refine Ql eN ?_
 refine Qd fun K22 hK22 => Qc (Ps (Qe (hK22 _ _ _ (Qi (hret _ _ _ ?_)))))
 refine Ea results116 (.cons (Qh rfl) .nil) [rB b s1 true] le_ ?_
 refine ⟨rfl, 0, s1, true, ⟨rfl, hl, by decide, fun n q h => ?_, fun _ => rfl⟩, rfl⟩
 rw [hz, show 4 - i = 0 by omega] at h; cases h
theorem Qhq {R : Hp} (b : Nat) (s : List UInt8) (bad : Bool) (hs : s.length ≤ big) : Tri prog 116 [.pointer (some ⟨b, 0, none⟩)] R [rB b s bad]
  (fun r R' L' => R = R' ∧ ∃ (m : Nat) (s' : List UInt8) (bad' : Bool), r = .int .i64 (m : Int) ∧ L' = [rB b s' bad'] ∧ s'.length ≤ s.length ∧ m < 268435456 ∧ (bad = true → bad' = true) ∧ (bad = false → bad' = false → szM 4 0 0 s = some (m, s')) ∧ (bad = false → bad' = true → szM 4 0 0 s = none)) := by
 cases bad with
 | true =>
  refine (Qhp b s hs).mono ?_ (fun _ _ _ _ h => h)
  rintro v R' L' hR ⟨h1, h2, h3⟩
  exact ⟨h1, 0, s, true, h2, h3, Nat.le_refl _, by decide, fun _ => rfl, fun h => (by cases h), fun h => (by cases h)⟩
 | false =>
  refine (Qlx b s hs).mono ?_ (fun _ _ _ _ h => h)
  rintro v R' L' hR ⟨h1, m, s', bad', ⟨h2, h3, h4, h5, h6⟩, h7⟩
  refine ⟨h1, m, s', bad', h2, h7, h3, h4, fun h => (by cases h), fun _ hb => ?_, fun _ hb => ?_⟩
  ·cases hz : szM 4 0 0 s with
   | none => rw [h6 hz] at hb; cases hb
   | some q => obtain ⟨n, r⟩ := q; obtain ⟨rfl, rfl, _⟩ := h5 n r hz; rfl
  ·cases hz : szM 4 0 0 s with
   | none => rfl
   | some q => obtain ⟨n, r⟩ := q; obtain ⟨_, _, h⟩ := h5 n r hz; rw [h] at hb; cases hb
def Qn8 (b d : Nat) (s : List UInt8) (bad : Bool) (v : Value) (R' : Hp) (L' : List Asn) : Prop :=
 ∃ y cy s' bad', v = .agg ⟨cy⟩ ∧ RepN R' y cy ∧ L' = [rB b s' bad'] ∧ s'.length ≤ s.length ∧ (bad = true → bad' = true) ∧ (bad = false → bad' = false → rdM d s = some (y, s')) ∧ (bad = false → bad' = true → rdM d s = none)
theorem qY (s : List UInt8) (n : Nat) : ((Xx s false n).2.2 = true ∧ (Xx s false n).1 = [] ∧ (Xx s false n).2.1 = s ∧ s.length < n) ∨ ((Xx s false n).2.2 = false ∧ (Xx s false n).1 = s.take n ∧ (Xx s false n).2.1 = s.drop n ∧ n ≤ s.length) := by
 unfold Xx
 by_cases h : s.length < n
 ·simp [h]
 ·simp [h]; omega
theorem ZZ (R : Hp) : RepN R ZH [.int .i64 0, .int .u64 0, .string (str []), .slice none 0 0] := RepL.node (k := 0) (n := 0) (s := []) (by simp [big]) (RepL.nil R)
theorem QfH {t : List UInt8} {i : Nat} (h : i < t.length) : beN (t.take (i + 1)) = beN (t.take i) * 256 + (XB t (i : Int)).toNat := by
 rw [List.take_add_one]
 have : t[i]? = some (t[i]) := by simp [h]
 rw [this]
 simp only [Option.toList_some]
 rw [Qcb]
 simp [XB, h]
theorem Qgv {f : List UInt8 → Option (Nd × List UInt8)} {n : Nat} {s s' : List UInt8} {ks : List Nd} {m : Nat} (h : rdL f n s = (rdL f m s').map (fun p => (ks ++ p.1, p.2))) {y : Nd} {r : List UInt8} {m' : Nat} (hm : m = m' + 1) (hy : f s' = some (y, r)) :
  rdL f n s = (rdL f m' r).map (fun p => ((ks ++ [y]) ++ p.1, p.2)) := by
 rw [h, hm, rdL, hy]
 simp only
 cases rdL f m' r with
 | none => rfl
 | some q => simp
theorem QeX {f : List UInt8 → Option (Nd × List UInt8)} {n : Nat} {s s' : List UInt8} {ks : List Nd} {m : Nat} (h : rdL f n s = (rdL f m s').map (fun p => (ks ++ p.1, p.2))) {m' : Nat} (hm : m = m' + 1) (hy : f s' = none) : rdL f n s = none := by
 rw [h, hm, rdL, hy]; rfl
def Kids (R : Hp) (ks : List Nd) (css : List (List Value)) : Prop := css.length = ks.length ∧ ∀ (i : Nat) (x : Nd) (cs : List Value), ks[i]? = some x → css[i]? = some cs → RepN R x cs
theorem Kids.mono {R R' : Hp} (h : R.le R') {ks : List Nd} {css : List (List Value)} (k : Kids R ks css) : Kids R' ks css := ⟨k.1, fun i x cs h1 h2 => (k.2 i x cs h1 h2).mono h⟩
theorem Kids.snoc {R : Hp} {ks : List Nd} {css : List (List Value)} (k : Kids R ks css) {y : Nd} {cy : List Value} (h : RepN R y cy) : Kids R (ks ++ [y]) (css ++ [cy]) := by
 refine ⟨by simp [k.1], fun i x cs h1 h2 => ?_⟩
 rcases Nat.lt_or_ge i ks.length with hi | hi
 ·rw [List.getElem?_append_left hi] at h1
  rw [List.getElem?_append_left (by rw [k.1]; exact hi)] at h2
  exact k.2 i x cs h1 h2
 ·rw [List.getElem?_append_right hi] at h1
  rw [List.getElem?_append_right (by rw [k.1]; exact hi), k.1] at h2
  cases hd : i - ks.length with
  | zero => rw [hd] at h1 h2; simp at h1 h2; subst h1 h2; exact h
  | succ n => rw [hd] at h1; simp at h1
theorem QjT {R : Hp} {x : Nd} {cs : List Value} (h : RepN R x cs) : cs.length = 4 := by
 obtain ⟨_, _, _, _, _, _, _, rfl, _⟩ := h.inv; rfl
theorem ZU {R : Hp} {x : Nd} {cs : List Value} (h : RepN R x cs) : ∀ u ∈ cs, u.oneCell' = true := by
 obtain ⟨_, _, _, _, _, _, _, rfl, _⟩ := h.inv
 intro u hu
 simp at hu
 rcases hu with rfl | rfl | rfl | rfl <;> rfl
theorem Qfm : ∀ (css : List (List Value)) (i : Nat) (cs : List Value) (j : Nat) (u : Value), (∀ c ∈ css, c.length = 4) → css[i]? = some cs → cs[j]? = some u → css.flatten[i * 4 + j]? = some u
 | [], i, cs, j, u, _, h, _ => by simp at h
 | c :: css, 0, cs, j, u, h4, h, hj => by
  simp at h; subst h
  have := (List.getElem?_eq_some_iff.1 hj).1
  simp only [List.flatten_cons, Nat.zero_mul, Nat.zero_add]
  rw [List.getElem?_append_left this, hj]
 | c :: css, i + 1, cs, j, u, h4, h, hj => by
  have hc := h4 c (by simp)
  simp only [List.flatten_cons]
  rw [List.getElem?_append_right (by omega), hc, show (i + 1) * 4 + j - 4 = i * 4 + j by omega]
  exact Qfm css i cs j u (fun x hx => h4 x (by simp [hx])) (by simpa using h) hj
theorem Kids.four {R : Hp} {ks : List Nd} {css : List (List Value)} (k : Kids R ks css) : ∀ c ∈ css, c.length = 4 := fun c hc => by
 obtain ⟨i, hi, rfl⟩ := List.getElem_of_mem hc
 exact QjT (k.2 i (ks[i]'(by rw [← k.1]; exact hi)) _ (by simp) (by simp [hi]))
theorem Kids.repL {R : Hp} {ks : List Nd} {css : List (List Value)} (k : Kids R ks css) {v : Value} (h : FrozenS R v ks.length css.flatten) (hb : ks.length ≤ big) : ∃ q cap, v = .slice q ks.length cap ∧ RepL R ks q cap := by
 rcases h with ⟨rfl, h0⟩ | ⟨b, off, cap, rfl, h1, h2, h3⟩
 ·have : ks = [] := List.eq_nil_of_length_eq_zero h0
  subst this
  exact ⟨none, 0, rfl, RepL.nil R⟩
 ·refine ⟨_, cap, rfl, css, hb, k.1, h1, h2, fun i x cs e1 e2 => k.four cs (List.mem_of_getElem? e2), k.2, .inr ⟨b, off, rfl, fun i cs j u e1 e2 => ?_⟩⟩
  rw [Nat.add_assoc]
  exact h3 _ _ (Qfm css i cs j u k.four e1 e2)
set_option maxHeartbeats 4000000
theorem Qj2 (X : Nat) (B : Int) (hB : 0 ≤ B ∧ B < 256) (hX : X < 72057594037927936) : qu .u64 (IntKind.u64.wrap ((X : Int) * 2 ^ min (8 : Int).toNat IntKind.u64.bits)) B = ((X * 256 + B.toNat : Nat) : Int) := by
 obtain ⟨A, rfl⟩ := Int.eq_ofNat_of_zero_le hB.1
 have hA : A < 2 ^ 8 := by omega
 have e0 : ((X : Int) * 2 ^ min (8 : Int).toNat IntKind.u64.bits) = ((X * 256 : Nat) : Int) := by
  have : min (8 : Int).toNat IntKind.u64.bits = 8 := by decide
  rw [this]; omega
 rw [e0, ZR ⟨by omega, by omega⟩]
 have h2 : (BitVec.ofInt 64 ((X * 256 : Nat) : Int) ||| BitVec.ofInt 64 (A : Int)).toNat = X * 256 + A := by
  simp only [BitVec.ofInt_natCast, BitVec.toNat_or, BitVec.toNat_ofNat]
  rw [Nat.mod_eq_of_lt (by omega), Nat.mod_eq_of_lt (by omega)]
  have := Nat.two_pow_add_eq_or_of_lt (i := 8) (b := A) hA X
  rw [Nat.mul_comm X 256]; exact this.symm
 have h3 : qu .u64 ((X * 256 : Nat) : Int) (A : Int) = IntKind.u64.wrap ((X * 256 + A : Nat) : Int) := by rw [← h2]; rfl
 rw [h3, ZR ⟨by omega, by omega⟩]
 simp
theorem Qlj {e : Nat} {s : List UInt8} {bad bad2 : Bool} (hb : bad = false) (h : bad2 = true) (z3 : (Xx s bad 1).2.2 = false → bad2 = true → szM 4 0 0 (Xx s bad 1).2.1 = none) : rdM (e + 1) s = none := by
 subst hb
 cases s with
 | nil => rfl
 | cons k r =>
  rw [zK] at z3
  rw [rdM, z3 rfl h]
theorem Qli {m : Nat} {s s2 : List UInt8} {bad bad2 : Bool} (h : bad2 = false) (z1 : (Xx s bad 1).2.2 = true → bad2 = true) (z2 : (Xx s bad 1).2.2 = false → bad2 = false → szM 4 0 0 (Xx s bad 1).2.1 = some (m, s2)) :
  bad = false ∧ ∃ k r, s = k :: r ∧ szM 4 0 0 r = some (m, s2) ∧ (Xx s bad 1).1 = [k] := by
 cases bad with
 | true => rw [QaC] at z1; rw [z1 rfl] at h; cases h
 | false =>
  cases s with
  | nil => rw [show Xx [] false 1 = ([], [], true) by simp [Xx]] at z1; rw [z1 rfl] at h; cases h
  | cons k r => rw [zK] at z2 ⊢; exact ⟨rfl, k, r, rfl, z2 rfl h, rfl⟩
theorem QdP {t : List UInt8} (h : 0 < t.length) : (XB t 0 = 0) ↔ t.head? = some 0 := by
 cases t with
 | nil => simp at h
 | cons u t =>
  simp only [XB, Int.toNat_zero, List.getD_cons_zero, List.head?_cons, Option.some.injEq]
  constructor
  ·intro h; exact UInt8.toNat_inj.1 (by simpa using h)
  ·rintro rfl; rfl
theorem Qd2 {t : List UInt8} {i : Nat} (h8 : t.length ≤ 8) (hi : i < t.length) : beN (t.take i) < 72057594037927936 := by
 have h1 := Qnt (t.take i)
 have h2 : (t.take i).length ≤ 7 := by rw [List.length_take]; omega
 have h3 : 256 ^ (t.take i).length ≤ 256 ^ 7 := Nat.pow_le_pow_right (by omega) h2
 omega
theorem Qa0 (css : List (List Value)) (cy : List Value) : css.flatten ++ cy = (css ++ [cy]).flatten := by simp
theorem Qfe (ks : List Nd) (y : Nd) : ks.length + 1 = (ks ++ [y]).length := by simp
def QfM (r : Option (Nd × List UInt8)) (tk : List UInt8 × List UInt8 × Bool) (x : Bool) : Prop :=
 (x = true → r = none) ∧ (x = false → tk.2.2 = false → r = some (.mk 0 (beN tk.1) [] [], tk.2.1)) ∧ (tk.2.2 = true → r = none) ∧ (x = false → tk.1.length ≤ 8)
section
variable {r : Option (Nd × List UInt8)} {s2 : List UInt8} {m : Nat} {tk : List UInt8 × List UInt8 × Bool}
 (hr : r = (if m > 8 ∨ s2.length < m ∨ (m > 0 ∧ s2.head? = some 0) then none else some (.mk 0 (beN (s2.take m)) [] [], s2.drop m))) (htk : tk = Xx s2 false m)
include hr htk
omit htk in
theorem QnO (h : m > 8) : QfM r tk true := by
 have : r = none := by rw [hr, if_pos (.inl h)]
 exact ⟨fun _ => this, fun h => (by cases h), fun _ => this, fun h => (by cases h)⟩
theorem QnN (h8 : ¬ m > 8) (h0 : m > 0) (hb : tk.2.2 = false) : QfM r tk (decide (XB tk.1 0 = 0)) := by
 have hs := qY s2 m
 rw [← htk] at hs
 obtain ⟨_, h1, h2, h3⟩ := hs.resolve_left (by rw [hb]; simp)
 have hl : tk.1.length = m := by rw [h1, List.length_take]; omega
 have hh : tk.1.head? = s2.head? := by
  rw [h1]; cases s2 with
  | nil => simp at h3; omega
  | cons u t => cases m with
   | zero => omega
   | succ m => rfl
 have hk := QdP (t := tk.1) (by omega)
 rw [hh] at hk
 refine ⟨fun h => ?_, fun h _ => ?_, fun h => (by rw [hb] at h; cases h), fun _ => by omega⟩
 ·rw [hr, if_pos (.inr (.inr ⟨h0, hk.1 (of_decide_eq_true h)⟩))]
 ·rw [hr, h1, h2, if_neg]
  rintro (h | h | ⟨_, h⟩)
  ·exact h8 h
  ·omega
  ·exact of_decide_eq_false ‹_› (hk.2 h)
theorem QnM (hb : tk.2.2 = true) : QfM r tk false := by
 have hs := qY s2 m
 rw [← htk] at hs
 obtain ⟨_, h1, h2, h3⟩ := hs.resolve_right (by rw [hb]; simp)
 have : r = none := by rw [hr, if_pos (.inr (.inl h3))]
 exact ⟨fun h => (by cases h), fun _ h => (by rw [hb] at h; cases h), fun _ => this, fun _ => by rw [h1]; simp⟩
theorem QnL (h0 : m = 0) : QfM r tk false := by
 have hs := qY s2 m
 rw [← htk] at hs
 obtain ⟨h4, h1, h2, h3⟩ := hs.resolve_left (by rintro ⟨_, _, _, h⟩; omega)
 refine ⟨fun h => (by cases h), fun _ _ => ?_, fun h => (by rw [h4] at h; cases h), fun _ => by rw [h1]; simp; omega⟩
 rw [hr, h1, h2, if_neg (by omega)]
end
def QcR (d : Nat) : Prop := ∀ (b : Nat) (s : List UInt8) (bad : Bool) {R : Hp}, d ≤ 20 → s.length ≤ big →
  Tri prog 103 [.pointer (some ⟨b, 0, none⟩), .int .i64 (d : Int)] R [rB b s bad] (fun r R' L' => Qn8 b d s bad r R' L')
theorem Qhr : QcR 0 := by
 intro b s bad R hd hs
 refine Qn func103 rfl ntmps103 rfl (fun σ F Q hret hend hpan => ?_)
 try simp only [cB]
 refine Qd fun K1 hK1 => Qc ?_
 refine QA (wn0 rfl) rfl zeroValue150 rfl (fun b4 => ?_)
 refine Qe (hK1 _ _ _ (Qd fun K2 hK2 => Qd fun K3 hK3 => Qc (Pm ?_)))
 refine Pa (QB rfl rfl) (Qe (hK3 _ _ _ (Qv rfl (Qd fun K4 hK4 => Qc ?_))))
 refine Pm ?_
 refine Pa (Qf rfl) ?_
 refine Pa (Ga underlying174 sizeOf4) ?_
 refine Sa o4 ?_
 refine Qe (hK4 _ _ _ (Qd fun K5 hK5 => Qc ?_))
 refine Pa (QV (cells := [_, _, _, _]) [(0, 1), (1, 1), (2, 1), (3, 1)] underlying150 zeroValue150 (fun _ => rfl) rfl rfl) ?_
 refine Qu Qw rfl (wn0 rfl) rfl rfl (by (first | (simp [Value.oneCell']; done) | (intro u hu; simp only [List.mem_cons, List.not_mem_nil, or_false] at hu; rcases hu with rfl | rfl | rfl | rfl <;> first | rfl | assumption))) fd_ (by (simp)) rfl ?_
 refine Qe (hK5 _ _ _ (Qi (hret _ _ _ ?_)))
 refine Ea results103 (.cons (QN Qw rfl fd_ rfl rfl) .nil) [rB b s true] le_ ?_
 exact ⟨ZH, _, s, true, rfl, ZZ R, rfl, Nat.le_refl _, fun _ => rfl, fun _ h => (by cases h), fun _ _ => rfl⟩
theorem Qhs (e : Nat) (ih : QcR e) : QcR (e + 1) := by
 intro b s bad R hd hs
 have hs0 := hs
 unfold big at hs
 refine Qn func103 rfl ntmps103 rfl (fun σ F Q hret hend hpan => ?_)
 try simp only [cB]
 refine Qd fun K1 hK1 => Qc ?_
 refine QA (wn0 rfl) rfl zeroValue150 rfl (fun bo => ?_)
 refine Qe (hK1 _ _ _ (Qd fun K2 hK2 => Qd fun K3 hK3 => Qc (Pm ?_)))
 refine Pa (QB rfl rfl) (Qe (hK3 _ _ _ (Qs rfl (Qj (hK2 _ _ _ (Qd fun K4 hK4 => Qc ?_))))))
 refine Pm ?_
 refine Ra call115 (jz b s bad 1 hs0 (by decide)) ?_
 rintro r R' L' hR ⟨rfl, rfl, rfl⟩
 have hsl : (Xx s bad 1).2.1.length ≤ s.length := by unfold Xx; split; exact Nat.le_refl _; simp
 try simp only [cB]
 refine Pm ?_
 refine Ra call116 (Qhq b (Xx s bad 1).2.1 (Xx s bad 1).2.2 (Nat.le_trans hsl hs0)) ?_
 rintro r R' L' hR ⟨rfl, m, s2, bad2, rfl, rfl, hs2, hm, z1, z2, z3⟩
 try simp only [cB]
 refine Ps (Ps (Qe (hK4 _ _ _ (Qd fun K5 hK5 => ?_))))
 have hJ27 : ∀ (x : List UInt8 × Bool), x.1.length ≤ s.length ∧ (bad = false → rdM (e + 1) s = none) → EJ ⟨prog, 107, σ⟩ K5 [(0, .pointer (some ⟨b, 0, none⟩)), (4, .pointer (some ⟨bo, 0, none⟩))] R (rB b x.1 x.2 :: blk bo [.int .i64 0, .int .u64 0, .string (str []), .slice none 0 0] 150 :: F) := by
  rintro ⟨sj, badj⟩ ⟨hj1, hj2⟩
  try dsimp only
  dsimp only at hj1 hj2
  refine hK5 _ _ _ (Qd fun K6 hK6 => Qc (Pm ?_))
  refine Pa (Qf rfl) ?_
  refine Pa (Ga underlying174 sizeOf4) ?_
  refine Sa o4 ?_
  refine Qe (hK6 _ _ _ (Qd fun K7 hK7 => Qc ?_))
  refine Pa (QV (cells := [_, _, _, _]) [(0, 1), (1, 1), (2, 1), (3, 1)] underlying150 zeroValue150 (fun _ => rfl) rfl rfl) ?_
  refine Qu Qw rfl (wn0 rfl) rfl rfl (by (first | (simp [Value.oneCell']; done) | (intro u hu; simp only [List.mem_cons, List.not_mem_nil, or_false] at hu; rcases hu with rfl | rfl | rfl | rfl <;> first | rfl | assumption))) fd_ (by (simp)) rfl ?_
  refine Qe (hK7 _ _ _ (Qi (hret _ _ _ ?_)))
  refine Ea results103 (.cons (QN Qw rfl fd_ rfl rfl) .nil) [rB b sj true] (by first | exact Hp.le_refl _ | exact Hp.le_trans hr1 hR2) ?_
  exact ⟨ZH, _, sj, true, rfl, ZZ R, rfl, hj1, fun _ => rfl, fun _ h => (by cases h), fun hb _ => hj2 hb⟩
 refine Qp (Qd fun K8 hK8 => Qc (Pm ?_))
 refine Pa (Qf rfl) ?_
 refine Pa (Ga underlying174 sizeOf4) ?_
 refine Pa (La o4) (Ps (Qe (hK8 _ _ _ ?_)))
 refine Qm rfl (fun hc22 => ?_) (fun hc22 => ?_)
 subst hc22
 refine Qj ?_
 refine QG hJ27 ((s2, true)) (⟨by dsimp only; omega, fun hb => Qlj hb rfl z3⟩) (eC rfl (eC rfl eN)) rfl sb_
 subst hc22
 obtain ⟨rfl, k, r0, rfl, hz, hk⟩ := Qli rfl z1 z2
 have hs3 : s2.length ≤ r0.length := by rw [zK] at hs2; exact hs2
 rw [hk]
 refine Qd fun K10 hK10 => Qc (Pm ?_)
 refine Pa (jq rfl rfl) (Ps (Qe (hK10 _ _ _ ?_)))
 refine Ql (eL 0 rfl (eL 1 rfl (eL 4 rfl (eL 5 rfl (eL 6 rfl (eL 27 rfl eN)))))) ?_
 refine Qm rfl (fun hc27 => ?_) (fun hc27 => ?_)
 (try simp only [dx] at hc27); obtain rfl : k = 110 := by simpa using hc27
 refine Qd fun K12 hK12 => Qc (Pm (Pm ?_))
 refine Ra call115 (jz b s2 false m (Nat.le_trans hs2 (Nat.le_trans hsl hs0)) (by unfold big; omega)) ?_
 rintro r R' L' hR ⟨rfl, rfl, rfl⟩
 have htk := qY s2 m
 obtain ⟨tk, htk0⟩ : ∃ tk, tk = Xx s2 false m := ⟨_, rfl⟩
 rw [← htk0] at htk ⊢
 have hrd : rdM (e + 1) (110 :: r0) = (if m > 8 ∨ s2.length < m ∨ (m > 0 ∧ s2.head? = some 0) then none else some (.mk 0 (beN (s2.take m)) [] [], s2.drop m)) := by rw [rdM, hz]; simp
 try simp only [cB]
 refine Ps (Qe (hK12 _ _ _ (Qd fun K13 hK13 => Qd fun K14 hK14 => ?_)))
 have hJ9 : ∀ (x : Bool), QfM (rdM (e + 1) (110 :: r0)) tk x → EJ ⟨prog, 107, σ⟩ K14 [(0, .pointer (some ⟨b, 0, none⟩)), (4, .pointer (some ⟨bo, 0, none⟩)), (7, .string (str tk.1)), (50, .bool x)] R (rB b tk.2.1 tk.2.2 :: blk bo [.int .i64 0, .int .u64 0, .string (str []), .slice none 0 0] 150 :: F) := by
  rintro x ⟨j1, j2, j3, j4⟩
  try dsimp only
  have hk3 : tk.2.1.length ≤ (110 :: r0).length := by rcases htk with h | h; rw [h.2.2.1, List.length_cons]; omega; rw [h.2.2.1]; simp; omega
  refine hK14 _ _ _ ?_
  refine Qm rfl (fun hc50 => ?_) (fun hc50 => ?_)
  subst hc50
  refine Qd fun K16 hK16 => Qc (Pm ?_)
  refine Pa (Qf rfl) ?_
  refine Pa (Ga underlying174 sizeOf4) ?_
  refine Sa o4 ?_
  refine Qe (hK16 _ _ _ (Qd fun K17 hK17 => Qc ?_))
  refine Pa (QV (cells := [_, _, _, _]) [(0, 1), (1, 1), (2, 1), (3, 1)] underlying150 zeroValue150 (fun _ => rfl) rfl rfl) ?_
  refine Qu Qw rfl (wn0 rfl) rfl rfl (by (first | (simp [Value.oneCell']; done) | (intro u hu; simp only [List.mem_cons, List.not_mem_nil, or_false] at hu; rcases hu with rfl | rfl | rfl | rfl <;> first | rfl | assumption))) fd_ (by (simp)) rfl ?_
  refine Qe (hK17 _ _ _ (Qi (hret _ _ _ ?_)))
  refine Ea results103 (.cons (QN Qw rfl fd_ rfl rfl) .nil) [rB b tk.2.1 true] (by first | exact Hp.le_refl _ | exact Hp.le_trans hr1 hR2) ?_
  exact ⟨ZH, _, _, true, rfl, ZZ R, rfl, hk3, fun _ => rfl, fun _ h => (by cases h), fun _ _ => j1 rfl⟩
  subst hc50
  refine Qj (hK13 _ _ _ (Qd fun K18 hK18 => Qc (Ps (Qe (hK18 _ _ _ (Qd fun K19 hK19 => Qd fun K20 hK20 => Qc ?_))))))
  refine Pm ?_
  refine Pa (Yv underlying9 rfl) (Pm (Qe (hK20 _ _ _ (Qp ?_))))
  have h8 := j4 rfl
  refine Ql (E' := (fun (x : Nat) => [(4, .pointer (some ⟨bo, 0, none⟩)), (7, .string (str tk.1)), (8, .int .u64 (beN (tk.1.take x) : Int)), (56, .int .i64 (tk.1.length : Int)), (57, .int .i64 (x : Int))]) 0) (eC rfl (eC rfl (eC rfl (eC rfl (eC rfl eN))))) ?_
  refine Xi (M := (fun (x : Nat) => rB b tk.2.1 tk.2.2 :: blk bo [.int .i64 0, .int .u64 0, .string (str []), .slice none 0 0] 150 :: F) 0) sb_ ?_
  refine QY (fun (x : Nat) => [(4, .pointer (some ⟨bo, 0, none⟩)), (7, .string (str tk.1)), (8, .int .u64 (beN (tk.1.take x) : Int)), (56, .int .i64 (tk.1.length : Int)), (57, .int .i64 (x : Int))]) (fun (x : Nat) => R) (fun (x : Nat) => rB b tk.2.1 tk.2.2 :: blk bo [.int .i64 0, .int .u64 0, .string (str []), .slice none 0 0] 150 :: F) (fun (x : Nat) => x ≤ tk.1.length) (fun (x : Nat) => tk.1.length - x) 0 (by simp) ?_
  rintro i hI13
  try dsimp only
  refine Qd fun K21 hK21 => Qc ?_
  refine Pa (QO rfl rfl) (Qe (hK21 _ _ _ (Qd fun K22 hK22 => ?_)))
  refine Qm rfl (fun hc58 => ?_) (fun hc58 => ?_)
  try simp only [dx] at hc58
  refine Qj (hK22 _ _ _ (Qd fun K24 hK24 => Qp (Qd fun K25 hK25 => Qc (Pm (Ps (Qe (hK25 _ _ _ (Qc ?_))))))))
  have hlt := Qd2 (t := tk.1) (i := i) h8 (by omega)
  have h4 := qU tk.1 i
  refine Pm ?_
  refine Pa (Qce rfl rfl om_) (Pm (Pm ?_))
  refine Pa (Yx underlying9 rfl rfl om_) ?_
  refine Pa ((Xp underlying5 underlying36 rfl (by simp only [IntKind.min, IntKind.max, IntKind.signed, IntKind.bits, Bool.false_eq_true, ite_false]; omega))) ?_
  refine Pa (QcT rfl rfl) ?_
  refine Xg 66 rfl (v' := .int .u64 (beN (tk.1.take (i + 1)) : Int)) (by rw [QfH (by omega)]; exact congrArg _ (Qj2 _ _ h4 hlt)) ?_
  refine Ps (Qe (hK24 _ _ _ ?_))
  refine Ql (eL 4 rfl (eL 7 rfl (eL 8 rfl (eL 56 rfl (eL 57 rfl eN))))) ?_
  refine Qc ?_
  refine Pa (Qt rfl rfl om_) (Pm (Qe ?_))
  refine Xl (q' := QS _ _ _ _ _ _ _) rfl ?_
  refine QC (i + 1) (by omega) (by omega) (eC rfl (eC rfl (eC rfl (eC rfl (eC rfl eN))))) rfl sb_
  try simp only [dx] at hc58
  refine QL (hK19 _ _ _ (Qd fun K26 hK26 => Qc ?_))
  rw [List.take_of_length_le (by omega)]
  refine Pm ?_
  refine Pa (Ca call95 (ZO _)) ?_
  refine Qu Qw rfl (wn0 rfl) rfl rfl (by (first | (simp [Value.oneCell']; done) | (intro u hu; simp only [List.mem_cons, List.not_mem_nil, or_false] at hu; rcases hu with rfl | rfl | rfl | rfl <;> first | rfl | assumption))) fd_ (by (simp)) rfl ?_
  refine Qe (hK26 _ _ _ (Qi (hret _ _ _ ?_)))
  refine Ea results103 (.cons (QN Qw rfl fd_ rfl rfl) .nil) [rB b tk.2.1 tk.2.2] (by first | exact Hp.le_refl _ | exact Hp.le_trans hr1 hR2) ?_
  exact ⟨.mk 0 (beN tk.1) [] [], _, _, _, rfl, RepL.node (by simp [big]) (RepL.nil R), rfl, hk3, fun h => (by cases h), fun _ h => j2 rfl h, fun _ h => j3 h⟩
 refine Qc (Pm ?_)
 refine Pa (Xs rfl rfl) (Pm ?_)
 refine QE 35 rfl (fun hg35 => ?_) (fun hg35 => ?_)
 (try simp only [dx] at hg35)
 refine Pk (Pk (Pk ?_))
 refine QX (wn3 rfl rfl rfl rfl) rfl rfl ?_
 refine QX (wn3 rfl rfl rfl rfl) rfl rfl ?_
 refine QX (wn3 rfl rfl rfl rfl) rfl rfl ?_
 refine QX (wn3 rfl rfl rfl rfl) rfl rfl ?_
 refine QX (wn3 rfl rfl rfl rfl) rfl rfl ?_
 refine Pk (Pk ?_)
 refine QX (wn3 rfl rfl rfl rfl) rfl rfl ?_
 refine QX (wn3 rfl rfl rfl rfl) rfl rfl ?_
 refine QX (wn3 rfl rfl rfl rfl) rfl rfl ?_
 refine Pk ?_
 refine Pa (Qr rfl rfl) (Qe ?_)
 refine QG hJ9 (true) (QnO hrd (by (try simp at hg35); omega)) (eC rfl (eC rfl (eC rfl (eC rfl eN)))) rfl sb_
 (try simp only [dx] at hg35)
 refine Pb (Qg rfl) ?_
 refine Pb (Xs rfl rfl) ?_
 refine Pb (Qg rfl) ?_
 refine QE 38 rfl (fun hg38 => ?_) (fun hg38 => ?_)
 try simp only [dx] at hg38
 refine Pb (Qg rfl) ?_
 refine Pb (Qf rfl) ?_
 refine Pb (Ga underlying174 sizeOf4) ?_
 refine Pb (La o4) ?_
 refine Pb (Yq rfl) ?_
 refine Pb (Qr rfl rfl) ?_
 refine Pb (Qg rfl) ?_
 refine QE 45 rfl (fun hg45 => ?_) (fun hg45 => ?_)
 (try simp only [dx] at hg45)
 have hbd : tk.2.2 = false := by simpa using hg45
 have hk2 := (htk.resolve_left (by rw [hbd]; simp)).2
 have htl : tk.1.length = m := by rw [hk2.1, List.length_take]; omega
 refine Pb (Qg rfl) ?_
 refine Pb (Yx underlying9 rfl rfl om_) ?_
 refine Pb (QB rfl rfl) ?_
 refine Pb (Qr rfl rfl) ?_
 refine Pa (Qo rfl rfl) (Qe ?_)
 refine QG hJ9 ((decide (XB tk.1 0 = 0))) (QnN hrd htk0 (by (try simp at hg35); omega) (by (try simp at hg38); omega) hbd) (eC rfl (eC rfl (eC rfl (eC rfl eN)))) rfl sb_
 (try simp only [dx] at hg45)
 have hbd : tk.2.2 = true := by simpa using hg45
 refine Pk (Pk (Pk ?_))
 refine Pb (Qo rfl rfl) ?_
 refine Pa (Qo rfl rfl) (Qe ?_)
 refine QG hJ9 (false) (QnM hrd htk0 hbd) (eC rfl (eC rfl (eC rfl (eC rfl eN)))) rfl sb_
 try simp only [dx] at hg38
 refine Pk (Pk (Pk (Pk (Pk ?_))))
 refine Pb (Qo rfl rfl) ?_
 refine Pb (Qg rfl) (Pk (Pk (Pk ?_)))
 refine Pb (Qo rfl rfl) ?_
 refine Pa (Qo rfl rfl) (Qe ?_)
 refine QG hJ9 (false) (QnL hrd htk0 (by (try simp at hg38); omega)) (eC rfl (eC rfl (eC rfl (eC rfl eN)))) rfl sb_
 try simp only [dx] at hc27
 refine Qd fun K27 hK27 => Qc (Pm ?_)
 refine Pa (jq rfl rfl) (Ps (Qe (hK27 _ _ _ ?_)))
 refine Ql (eL 0 rfl (eL 1 rfl (eL 4 rfl (eL 5 rfl (eL 6 rfl (eL 70 rfl eN)))))) ?_
 refine Qm rfl (fun hc70 => ?_) (fun hc70 => ?_)
 (try simp only [dx] at hc70); obtain rfl : k = 115 := by simpa using hc70
 refine Qd fun K29 hK29 => Qc (Pm (Pm ?_))
 refine Ra call115 (jz b s2 false m (Nat.le_trans hs2 (Nat.le_trans hsl hs0)) (by unfold big; omega)) ?_
 rintro r R' L' hR ⟨rfl, rfl, rfl⟩
 have htk := qY s2 m
 obtain ⟨tk, htk0⟩ : ∃ tk, tk = Xx s2 false m := ⟨_, rfl⟩
 rw [← htk0] at htk ⊢
 have hrd : rdM (e + 1) (115 :: r0) = (if s2.length < m then none else some (.mk 1 0 (s2.take m) [], s2.drop m)) := by rw [rdM, hz]; simp
 have hk3 : tk.2.1.length ≤ (115 :: r0).length := by rcases htk with h | h; rw [h.2.2.1, List.length_cons]; omega; rw [h.2.2.1]; simp; omega
 have hk4 : tk.1.length ≤ big := by unfold big; rcases htk with h | h; rw [h.2.1]; simp; rw [h.2.1]; simp; omega
 have j2 : tk.2.2 = false → rdM (e + 1) (115 :: r0) = some (.mk 1 0 tk.1 [], tk.2.1) := fun h => by rcases htk with h1 | h1; rw [h1.1] at h; cases h; rw [hrd, if_neg (by omega), h1.2.1, h1.2.2.1]
 have j3 : tk.2.2 = true → rdM (e + 1) (115 :: r0) = none := fun h => by rcases htk with h1 | h1; rw [hrd, if_pos h1.2.2.2]; rw [h1.1] at h; cases h
 try simp only [cB]
 refine Pa (Ca call114 (Qe1 _)) ?_
 refine Qu Qw rfl (wn0 rfl) rfl rfl (by (first | (simp [Value.oneCell']; done) | (intro u hu; simp only [List.mem_cons, List.not_mem_nil, or_false] at hu; rcases hu with rfl | rfl | rfl | rfl <;> first | rfl | assumption))) fd_ (by (simp)) rfl ?_
 refine Qe (hK29 _ _ _ (Qi (hret _ _ _ ?_)))
 refine Ea results103 (.cons (QN Qw rfl fd_ rfl rfl) .nil) [rB b tk.2.1 tk.2.2] (by first | exact Hp.le_refl _ | exact Hp.le_trans hr1 hR2) ?_
 exact ⟨.mk 1 0 tk.1 [], _, _, _, rfl, RepL.node hk4 (RepL.nil R), rfl, hk3, fun h => (by cases h), fun _ h => j2 h, fun _ h => j3 h⟩
 try simp only [dx] at hc70
 refine Qd fun K30 hK30 => Qc (Pm ?_)
 refine Pa (jq rfl rfl) (Ps (Qe (hK30 _ _ _ ?_)))
 refine Qm rfl (fun hc77 => ?_) (fun hc77 => ?_)
 (try simp only [dx] at hc77); obtain rfl : k = 108 := by simpa using hc77
 refine Qd fun K32 hK32 => Qc ?_
 have hrd : rdM (e + 1) (108 :: r0) = (match rdL (rdM e) m s2 with | none => none | some (l, r') => some (.mk 2 0 [] l, r')) := by rw [rdM, hz]; simp only; rw [if_neg (by decide), if_neg (by decide), if_pos trivial]; try rfl
 refine Pa (QV (cells := [_, _, _, _]) [(0, 1), (1, 1), (2, 1), (3, 1)] underlying150 zeroValue150 (fun _ => rfl) rfl rfl) ?_
 refine QA (wn0 rfl) rfl zeroValue150 rfl (fun bl => ?_)
 refine Qu Qw rfl (wn0 rfl) rfl rfl (by (first | (simp [Value.oneCell']; done) | (intro u hu; simp only [List.mem_cons, List.not_mem_nil, or_false] at hu; rcases hu with rfl | rfl | rfl | rfl <;> first | rfl | assumption))) fd_ (by (simp)) rfl ?_
 refine YR (A := slc 150 4 (.slice none 0 0) 0 []) (Yr _ _) ?_
 refine Qe (hK32 _ _ _ (Qd fun K33 hK33 => Qd fun K34 hK34 => Qc (Ps (Qe (hK34 _ _ _ (Qp ?_))))))
 refine Ql (E' := (fun (x : List Nd × List (List Value) × Value × List UInt8 × Bool × Hp) => [(0, .pointer (some ⟨b, 0, none⟩)), (1, .int .i64 ((e + 1 : Nat) : Int)), (4, .pointer (some ⟨bo, 0, none⟩)), (6, .int .i64 (m : Int)), (10, .pointer (some ⟨bl, 0, none⟩)), (11, .int .i64 (x.1.length : Int))]) ([], [], .slice none 0 0, s2, false, R)) (eC rfl (eC rfl (eC rfl (eC rfl (eC rfl (Env.le_cons (Eq.trans rfl (congrArg some (by first | rfl | (exact congrArg (Value.int .i64) (by simp))))) eN)))))) ?_
 refine Xi (M := (fun (x : List Nd × List (List Value) × Value × List UInt8 × Bool × Hp) => rB b x.2.2.2.1 x.2.2.2.2.1 :: slc 150 4 x.2.2.1 x.1.length x.2.1.flatten :: blk bl [.int .i64 2, .int .u64 0, .string (str []), x.2.2.1] 150 :: blk bo [.int .i64 0, .int .u64 0, .string (str []), .slice none 0 0] 150 :: F) ([], [], .slice none 0 0, s2, false, R)) sb_ ?_
 refine QY (fun (x : List Nd × List (List Value) × Value × List UInt8 × Bool × Hp) => [(0, .pointer (some ⟨b, 0, none⟩)), (1, .int .i64 ((e + 1 : Nat) : Int)), (4, .pointer (some ⟨bo, 0, none⟩)), (6, .int .i64 (m : Int)), (10, .pointer (some ⟨bl, 0, none⟩)), (11, .int .i64 (x.1.length : Int))]) (fun (x : List Nd × List (List Value) × Value × List UInt8 × Bool × Hp) => x.2.2.2.2.2) (fun (x : List Nd × List (List Value) × Value × List UInt8 × Bool × Hp) => rB b x.2.2.2.1 x.2.2.2.2.1 :: slc 150 4 x.2.2.1 x.1.length x.2.1.flatten :: blk bl [.int .i64 2, .int .u64 0, .string (str []), x.2.2.1] 150 :: blk bo [.int .i64 0, .int .u64 0, .string (str []), .slice none 0 0] 150 :: F) (fun (x : List Nd × List (List Value) × Value × List UInt8 × Bool × Hp) => R.le x.2.2.2.2.2 ∧ x.1.length ≤ m ∧ Kids x.2.2.2.2.2 x.1 x.2.1 ∧ x.2.2.2.1.length ≤ s2.length ∧ (x.2.2.2.2.1 = false → rdL (rdM e) m s2 = (rdL (rdM e) (m - x.1.length) x.2.2.2.1).map (fun p => (x.1 ++ p.1, p.2))) ∧ (x.2.2.2.2.1 = true → rdL (rdM e) m s2 = none)) (fun (x : List Nd × List (List Value) × Value × List UInt8 × Bool × Hp) => m - x.1.length) ([], [], .slice none 0 0, s2, false, R) (⟨Hp.le_refl R, by simp, ⟨rfl, fun i x cs h _ => by simp at h⟩, Nat.le_refl _, fun _ => by simp, fun h => (by cases h)⟩) ?_
 rintro ⟨ks, css, v, sj, badj, R1⟩ ⟨hr1, hi, hk, hsj, q1, q2⟩
 try dsimp only
 dsimp only at hr1 hi hk hsj q1 q2
 refine Qd fun K35 hK35 => Qd fun K36 hK36 => Qc (Pm (Pm ?_))
 refine Pa (QO rfl rfl) (Pm ?_)
 refine QE 84 rfl (fun hg84 => ?_) (fun hg84 => ?_)
 try simp only [dx] at hg84
 refine Pb (Qg rfl) ?_
 refine Pb (Qf rfl) ?_
 refine Pb (Ga underlying174 sizeOf4) ?_
 refine Pb (La o4) ?_
 refine Pb (Yq rfl) ?_
 refine Pa (Qr rfl rfl) (Qe (hK36 _ _ _ ?_))
 refine Ql (eL 0 rfl (eL 1 rfl (eL 4 rfl (eL 6 rfl (eL 10 rfl (eL 11 rfl (eL 90 rfl eN))))))) ?_
 refine Qm rfl (fun hc90 => ?_) (fun hc90 => ?_)
 (try simp only [dx] at hc90); obtain rfl : badj = false := by simpa using hc90
 refine Qj (hK35 _ _ _ (Qd fun K38 hK38 => Qp ?_))
 refine Xd (L := [blk bl [.int .i64 2, .int .u64 0, .string (str []), v] 150]) [0, 1, 2, 3, 4] [5, 6] [7, 8, 9] _ sb_ (by kernel_rfl) (by kernel_rfl) (by kernel_rfl) rfl ?_
 refine Wa rfl (fun R1 hR1 G => (Ga underlying150 sizeOf148)) ?_
 refine Wa rfl (fun R1 hR1 G => (La Ys)) ?_
 refine Wa rfl (fun R1 hR1 G => (Qg rfl)) ?_
 refine Wa rfl (fun R1 hR1 G => (Qg rfl)) ?_
 refine Wa rfl (fun R1 hR1 G => (YN rfl rfl om_).to (show Value.int .i64 (((e + 1 : Nat) : Int) - 1) = .int .i64 (e : Int) from congrArg _ (by omega))) ?_
 refine Xc ?_
 refine QH rfl ?_
 try simp only [cC]
 refine Ra call103 (ih b sj false (by omega) (by unfold big; omega)) ?_
 rintro r R2 L' hR2 ⟨y, cy, s4, bad4, rfl, hy, rfl, hs4, y1, y2, y3⟩
 obtain ⟨k1, n1, st1, l1, qq1, cap1, rfl, rfl, hb1, hl1⟩ := hy.inv
 try simp only [cB]
 refine QI le_ sb_ ?_
 refine QH rfl ?_
 try simp only [cC]
 refine Qz (sz := 4) (wn0 rfl) rfl underlying148 sizeOf150 zeroValue150 rfl rfl rfl (by decide) (by decide) (fun b99 => ?_)
 refine QI le_ sb_ ?_
 refine Xe ?_
 try simp only [cC]
 refine XF (sz := 4) (by_ := 56) ⟨underlying148, _, _, rfl, rfl, rfl, rfl, rfl⟩ (wn0 rfl) rfl rfl rfl fd_ (YT underlying148 fd_ (ZU hy)) rfl om_ (by simp only [maxLen]; omega) (fun v100 ho100 hh100 => ?_)
 rw [Qa0 css, Qfe ks (Nd.mk k1 n1 st1 l1)]
 refine Pa (Ga underlying150 sizeOf148) ?_
 refine Sa Ys ?_
 refine Qe (hK38 _ _ _ (Qc (Pm ?_)))
 refine Pa (Qt rfl rfl om_) (Ps (Qe ?_))
 refine Xl (q' := QS _ _ _ _ _ _ _) rfl ?_
 refine QC ((ks ++ [Nd.mk k1 n1 st1 l1], css ++ [[.int .i64 k1, .int .u64 ((n1 : Nat) : Int), .string (str st1), .slice qq1 l1.length cap1]], v100, s4, bad4, R2)) (⟨Hp.le_trans hr1 hR2, by dsimp only; rw [List.length_append]; simp; omega, (hk.mono hR2).snoc hy, by dsimp only; omega, fun hb => by dsimp only at hb ⊢; rw [List.length_append]; exact Qgv (q1 rfl) (by simp; omega) (y2 rfl hb), fun hb => QeX (q1 rfl) (m' := m - ks.length - 1) (by omega) (y3 rfl hb)⟩) (by dsimp only; rw [List.length_append]; simp; omega) (eC rfl (eC rfl (eC rfl (eC rfl (eC rfl (Env.le_cons (Eq.trans rfl (congrArg some (by first | rfl | (exact congrArg (Value.int .i64) (by simp))))) eN)))))) rfl sb_
 (try simp only [dx] at hc90); obtain rfl : badj = true := by simpa using hc90
 refine QL (hK33 _ _ _ (Qd fun K39 hK39 => Qc ?_))
 refine Yd (e := 150) (sz := 4) (n := ks.length) (v := v) (xs := css.flatten) fd_ (fun R2 hR2 hfr hxl => ?_)
 have hkb : ks.length ≤ big := by unfold big; omega
 obtain ⟨q, cap, rfl, hrl⟩ := (hk.mono hR2).repL hfr hkb
 refine Pa (Lb Qw) ?_
 refine Qu Qw rfl (wn0 rfl) rfl rfl (by (first | (simp [Value.oneCell']; done) | (intro u hu; simp only [List.mem_cons, List.not_mem_nil, or_false] at hu; rcases hu with rfl | rfl | rfl | rfl <;> first | rfl | assumption))) fd_ (by (simp)) rfl ?_
 refine Qe (hK39 _ _ _ (Qi (hret _ _ _ ?_)))
 refine Ea results103 (.cons (QN Qw rfl fd_ rfl rfl) .nil) [rB b sj true] (by first | exact Hp.le_refl _ | exact Hp.le_trans hr1 hR2) ?_
 exact ⟨.mk 2 0 [] ks, _, _, true, rfl, hrl.node (by simp [big]), rfl, by simp at hs2 ⊢; omega, fun _ => rfl, fun _ h => (by cases h), fun _ _ => by rw [hrd, q2 rfl]⟩
 try simp only [dx] at hg84
 refine Pk (Pk (Pk (Pk (Pk ?_))))
 refine Pa (Qo rfl rfl) (Qe (hK36 _ _ _ (Qs rfl (QL (hK33 _ _ _ (Qd fun K40 hK40 => Qc ?_))))))
 refine Yd (e := 150) (sz := 4) (n := ks.length) (v := v) (xs := css.flatten) fd_ (fun R2 hR2 hfr hxl => ?_)
 have hkb : ks.length ≤ big := by unfold big; omega
 obtain ⟨q, cap, rfl, hrl⟩ := (hk.mono hR2).repL hfr hkb
 refine Pa (Lb Qw) ?_
 refine Qu Qw rfl (wn0 rfl) rfl rfl (by (first | (simp [Value.oneCell']; done) | (intro u hu; simp only [List.mem_cons, List.not_mem_nil, or_false] at hu; rcases hu with rfl | rfl | rfl | rfl <;> first | rfl | assumption))) fd_ (by (simp)) rfl ?_
 refine Qe (hK40 _ _ _ (Qi (hret _ _ _ ?_)))
 refine Ea results103 (.cons (QN Qw rfl fd_ rfl rfl) .nil) [rB b sj badj] (by first | exact Hp.le_refl _ | exact Hp.le_trans hr1 hR2) ?_
 refine ⟨.mk 2 0 [] ks, _, _, badj, rfl, hrl.node (by simp [big]), rfl, by simp at hs2 ⊢; omega, fun h => (by cases h), fun _ h => ?_, fun _ h => by rw [hrd, q2 h]⟩
 rw [hrd, q1 h, show m - ks.length = 0 by omega]; simp [rdL]
 try simp only [dx] at hc77
 refine Qj ?_
 refine QG hJ27 ((s2, false)) (⟨by dsimp only; omega, fun _ => by rw [rdM, hz]; (try simp at hc27 hc70 hc77); simp [hc27, hc70, hc77]⟩) (eC rfl (eC rfl eN)) rfl sb_
theorem QlA (d : Nat) : QcR d := by
 induction d with
 | zero => exact Qhr
 | succ e ih => exact Qhs e ih
def Zl (s : List UInt8) : Nd × Bool := if s.length > 16777216 then (ZH, false) else match rdM 20 s with
 | some (x, []) => (x, true)
 | _ => (ZH, false)
theorem jY {s : List UInt8} (h : ¬ s.length > 16777216 → rdM 20 s = none) : Zl s = (ZH, false) := by
 unfold Zl
 by_cases hl : s.length > 16777216
 ·rw [if_pos hl]
 ·rw [if_neg hl, h hl]
theorem Qco {s s' : List UInt8} {y : Nd} (h : ¬ s.length > 16777216 → rdM 20 s = some (y, s')) (hne : ¬ s' = []) : Zl s = (ZH, false) := by
 unfold Zl
 by_cases hl : s.length > 16777216
 ·rw [if_pos hl]
 ·rw [if_neg hl, h hl]
  cases s' with
  | nil => exact absurd rfl hne
  | cons u t => rfl
theorem jX {s : List UInt8} {y : Nd} (hl : ¬ s.length > 16777216) (h : rdM 20 s = some (y, [])) : Zl s = (y, true) := by
 unfold Zl
 rw [if_neg hl, h]
theorem Qm2 {R : Hp} (s : List UInt8) (hs : s.length ≤ big) : Tri prog 82 [.string (str s)] R []
  (fun r R' L' => ∃ cy, r = .tuple #[.agg ⟨cy⟩, .bool (Zl s).2] ∧ RepN R' (Zl s).1 cy ∧ L' = []) := by
 have hbg : s.length ≤ 1000000000000 := hs
 refine Qn func82 rfl ntmps82 rfl (fun σ F Q hret hend hpan => ?_)
 try simp only [cB]
 refine Qd fun K1 hK1 => Qc ?_
 refine QA (wn0 rfl) rfl zeroValue150 rfl (fun b2 => ?_)
 refine Ps (Qe (hK1 _ _ _ (Qd fun K2 hK2 => Qc ?_)))
 refine Pm (Pm ?_)
 refine Pa (Yv underlying9 rfl) ?_
 refine Pa (Xs rfl rfl) ?_
 refine Pa (QV (cells := [_, _]) [(0, 1), (1, 1)] underlying174 zeroValue174 (fun _ => rfl) rfl rfl) ?_
 refine Xa (wn0 rfl) rfl rfl rfl (fun br => ?_)
 refine Ps (Qe (hK2 _ _ _ (Qd fun K3 hK3 => Qc ?_)))
 refine Pm ?_
 refine Ra call103 (QlA 20 br s (decide ((s.length : Int) > 16777216)) (by decide) hs) ?_
 rintro r R' L' hR ⟨y, cy, s', bad', rfl, hy, rfl, hs', y1, y2, y3⟩
 obtain ⟨k1, n1, st1, l1, qq1, cap1, rfl, rfl, hb1, hl1⟩ := hy.inv
 try simp only [cB]
 refine QA (wn0 rfl) rfl zeroValue150 rfl (fun b5 => ?_)
 refine Qu Qw rfl (wn0 rfl) rfl rfl (by (first | (simp [Value.oneCell']; done) | (intro u hu; simp only [List.mem_cons, List.not_mem_nil, or_false] at hu; rcases hu with rfl | rfl | rfl | rfl <;> first | rfl | assumption))) fd_ (by (simp)) rfl ?_
 refine Qe (hK3 _ _ _ (Qd fun K4 hK4 => Qd fun K5 hK5 => Qc (Pm ?_)))
 refine Pa (Qf rfl) ?_
 refine Pa (Ga underlying174 sizeOf4) ?_
 refine Pa (La o4) (Pm ?_)
 refine QE 18 rfl (fun hg18 => ?_) (fun hg18 => ?_)
 (try simp only [dx] at hg18); obtain rfl : bad' = true := by simpa using hg18
 refine Pk (Pk (Pk (Pk (Pk ?_))))
 refine Pa (Qr rfl rfl) (Qe (hK5 _ _ _ ?_))
 refine Ql (eL 2 rfl (eL 5 rfl (eL 24 rfl eN))) ?_
 refine Qv rfl (Qd fun K6 hK6 => Qc ?_)
 refine Pa (QV (cells := [_, _, _, _]) [(0, 1), (1, 1), (2, 1), (3, 1)] underlying150 zeroValue150 (fun _ => rfl) rfl rfl) ?_
 refine Qu Qw rfl (wn0 rfl) rfl rfl (by (first | (simp [Value.oneCell']; done) | (intro u hu; simp only [List.mem_cons, List.not_mem_nil, or_false] at hu; rcases hu with rfl | rfl | rfl | rfl <;> first | rfl | assumption))) fd_ (by (simp)) rfl ?_
 refine Ps (Qe (hK6 _ _ _ (Qi (hret _ _ _ ?_))))
 refine Ea results82 (.cons (QN Qw rfl fd_ rfl rfl) (.cons (Qh rfl) .nil)) [] le_ ?_
 rw [jY (fun hl => y3 (decide_eq_false (by omega)) rfl)]; exact ⟨_, rfl, ZZ R', rfl⟩
 (try simp only [dx] at hg18); obtain rfl : bad' = false := by simpa using hg18
 refine Pb (Qg rfl) ?_
 refine Pb (Qf rfl) ?_
 refine Pb (Ga underlying174 sizeOf9) ?_
 refine Pb (La o9) ?_
 refine Pb (Qeh rfl rfl) ?_
 refine Pa (Qo rfl rfl) (Qe (hK5 _ _ _ ?_))
 refine Qm rfl (fun hc24 => ?_) (fun hc24 => ?_)
 (try simp only [dx] at hc24); have hne : ¬ s' = [] := by simpa using hc24
 refine Qd fun K8 hK8 => Qc ?_
 refine Pa (QV (cells := [_, _, _, _]) [(0, 1), (1, 1), (2, 1), (3, 1)] underlying150 zeroValue150 (fun _ => rfl) rfl rfl) ?_
 refine Qu Qw rfl (wn0 rfl) rfl rfl (by (first | (simp [Value.oneCell']; done) | (intro u hu; simp only [List.mem_cons, List.not_mem_nil, or_false] at hu; rcases hu with rfl | rfl | rfl | rfl <;> first | rfl | assumption))) fd_ (by (simp)) rfl ?_
 refine Ps (Qe (hK8 _ _ _ (Qi (hret _ _ _ ?_))))
 refine Ea results82 (.cons (QN Qw rfl fd_ rfl rfl) (.cons (Qh rfl) .nil)) [] le_ ?_
 rw [Qco (fun hl => y2 (decide_eq_false (by omega)) rfl) hne]; exact ⟨_, rfl, ZZ R', rfl⟩
 (try simp only [dx] at hc24); have hne : s' = [] := by simpa using hc24
 refine Qj (hK4 _ _ _ (Qd fun K9 hK9 => Qc ?_))
 refine Pa (Lb Qw) ?_
 refine Qu Qw rfl (wn0 rfl) rfl rfl (by (first | (simp [Value.oneCell']; done) | (intro u hu; simp only [List.mem_cons, List.not_mem_nil, or_false] at hu; rcases hu with rfl | rfl | rfl | rfl <;> first | rfl | assumption))) fd_ (by (simp)) rfl ?_
 refine Ps (Qe (hK9 _ _ _ (Qi (hret _ _ _ ?_))))
 refine Ea results82 (.cons (QN Qw rfl fd_ rfl rfl) (.cons (Qh rfl) .nil)) [] le_ ?_
 subst hne; rw [jX (by by_cases hl : (s.length : Int) > 16777216; have := y1 (decide_eq_true hl); cases this; omega) (by by_cases hl : (s.length : Int) > 16777216; have := y1 (decide_eq_true hl); cases this; exact y2 (decide_eq_false hl) rfl)]; exact ⟨_, rfl, hy, rfl⟩
theorem Qmo {R : Hp} (v : Value) (n : Nat) (xs : List Value) (h1 : ∀ u ∈ xs, u.oneCell' = true) (hn : n ≤ 1000000) : Tri prog 123 [v] R [slc 150 4 v n xs]
  (fun r R' L' => R = R' ∧ L' = [slc 150 4 r n xs]) := by
 refine Qn func123 rfl ntmps123 rfl (fun σ F Q hret hend hpan => ?_)
 try simp only [cB]
 refine qT (A := slc 150 4 v n xs) fd_ qP (fun hsh => ?_)
 obtain ⟨q, k, rfl, hk, _, hqq⟩ := hsh
 have hq0 : q.isNone = true → n = 0 := fun h => by rcases Nat.eq_zero_or_pos n with h0 | h0; exact h0; obtain ⟨b, off, rfl⟩ := hqq h0; cases h
 refine Qd fun K1 hK1 => Qc (Ps (Qe (hK1 _ _ _ (Qd fun K2 hK2 => Qd fun K3 hK3 => Qc ?_))))
 refine Pm ?_
 refine Pa (Qa7 underlying148 rfl rfl) (Qe (hK3 _ _ _ ?_))
 refine Qm rfl (fun hc4 => ?_) (fun hc4 => ?_)
 have h0 := hq0 hc4
 subst h0
 refine qT (A := slc 150 4 (.slice q 0 k) 0 xs) fd_ Qlu (fun hxl => ?_)
 obtain rfl : xs = [] := by simpa using hxl
 refine QfF (A := slc 150 4 (.slice none 0 0) 0 []) (Yr _ _) ?_
 refine Qd fun K5 hK5 => Qc (Ps (Qe (hK5 _ _ _ (Qi (hret _ _ _ ?_)))))
 refine Ea results123 (.cons (Qh rfl) .nil) [slc 150 4 (.slice none 0 0) 0 []] le_ ?_
 exact ⟨rfl, rfl⟩
 try simp only [dx] at hc4
 refine Qj (hK2 _ _ _ (Qd fun K6 hK6 => Qc ?_))
 refine Qz (sz := 4) (wn0 rfl) rfl underlying148 sizeOf150 zeroValue150 rfl rfl rfl (by decide) (by decide) (fun b5 => ?_)
 refine Pm ?_
 refine XF (sz := 4) (by_ := 56) ⟨underlying148, _, _, rfl, rfl, rfl, rfl, rfl⟩ (wn0 rfl) rfl rfl rfl fd_ (YT underlying148 fd_ h1) rfl om_ (by simp only [maxLen]; omega) (fun v7 ho7 hh7 => ?_)
 rw [Nat.zero_add, List.nil_append]
 refine Ps (Qe (hK6 _ _ _ (Qi (hret _ _ _ ?_))))
 refine Ea results123 (.cons (Qh rfl) .nil) [slc 150 4 v7 n xs] le_ ?_
 exact ⟨rfl, rfl⟩
theorem QkW {R : Hp} (v : Value) (ks : List Nd) (css : List (List Value)) (hk : Kids R ks css) (hn : ks.length ≤ 1000000) : Tri prog 119 [v] R [slc 150 4 v ks.length css.flatten]
  (fun r R' L' => (∃ cy, r = .agg ⟨cy⟩ ∧ RepN R' (.mk 2 0 [] ks) cy) ∧ L' = []) := by
 have h1 : ∀ u ∈ css.flatten, u.oneCell' = true := fun u hu => by
  obtain ⟨c, hc, hu⟩ := List.mem_flatten.1 hu
  obtain ⟨i, hi, rfl⟩ := List.getElem_of_mem hc
  exact ZU (hk.2 i (ks[i]'(by rw [← hk.1]; exact hi)) _ (by simp) (by simp [hi])) u hu
 refine Qn func119 rfl ntmps119 rfl (fun σ F Q hret hend hpan => ?_)
 try simp only [cB]
 refine Qd fun K1 hK1 => Qc ?_
 refine QA (wn0 rfl) rfl zeroValue150 rfl (fun b2 => ?_)
 refine Qe (hK1 _ _ _ (Qd fun K2 hK2 => Qc (Pm ?_)))
 refine Ra call123 (Qmo v ks.length css.flatten h1 hn) ?_
 rintro r R' L' hR ⟨rfl, rfl⟩
 refine Qbf (A := slc 150 4 r ks.length css.flatten) fd_ qo (fun hro => ?_)
 refine Yd (e := 150) (sz := 4) (n := ks.length) (v := r) (xs := css.flatten) fd_ (fun R2 hR2 hfr hxl => ?_)
 have hkb : ks.length ≤ big := by unfold big; omega
 obtain ⟨q, cap, rfl, hrl⟩ := (hk.mono hR2).repL hfr hkb
 try simp only [cB]
 refine Pa (QV (cells := [_, _, _, _]) [(0, 1), (1, 1), (2, 1), (3, 1)] underlying150 zeroValue150 (fun _ => rfl) rfl rfl) ?_
 refine Qu Qw rfl (wn0 rfl) rfl rfl (by (first | (simp [Value.oneCell']; done) | (intro u hu; simp only [List.mem_cons, List.not_mem_nil, or_false] at hu; rcases hu with rfl | rfl | rfl | rfl <;> first | rfl | assumption))) fd_ (by (simp)) rfl ?_
 refine Qe (hK2 _ _ _ (Qi (hret _ _ _ ?_)))
 refine Ea results119 (.cons (QN Qw rfl fd_ rfl rfl) .nil) [] le_ ?_
 exact ⟨⟨_, rfl, hrl.node (by simp [big])⟩, rfl⟩
theorem QeW {x : Nd} (hok : OkN x) (hr : Xf 20 x = true) (hl : (wr x).length ≤ 16777216) : Zl (wr x) = (x, true) :=
 jX (by omega) (by have := QnF 20 x [] hok hr (by omega); simpa using this)
abbrev Bs := List UInt8
structure LG where
 term : Int
 vote : Int
 base : Int
 baseT : Int
 state : Bs
 all : List Ent
 down : Bool
def LG.new : LG := ⟨0, -1, 0, 0, [], [], false⟩
def LG.last (g : LG) : Int := g.base + g.all.length
def LG.at (g : LG) (i : Int) : Option Ent := if g.base < i ∧ i ≤ g.last then g.all[(i - g.base - 1).toNat]? else none
def LG.termAt (g : LG) (i : Int) : Option Int := if i = g.base then some g.baseT else (g.at i).map (·.1)
structure LG.ok (g : LG) : Prop where
 term : QM g.term
 vote : -1 ≤ g.vote ∧ g.vote < 9223372036854775807
 base : 0 ≤ g.base ∧ g.base ≤ 1000000000000000
 baseT : QM g.baseT
 state : g.state.length ≤ 1000000
 alln : g.all.length ≤ 100000
 all : ∀ e ∈ g.all, QM e.1 ∧ e.2.length ≤ 1000000
theorem LG.new_ok : LG.new.ok := ⟨by unfold QM; decide, by decide, by decide, by unfold QM; decide, by decide, by decide, fun e he => by cases he⟩
def Yi (n : Nat) : Nd := .mk 0 n [] []
def Zh (s : Bs) : Nd := .mk 1 0 s []
def YW (e : Ent) : Nd := .mk 2 0 [] [Yi e.1.toNat, Zh e.2]
def Zm (l : List Ent) : Nd := .mk 2 0 [] (l.map YW)
inductive Rec
 | term (t : Int) (v : Int)
 | add (behind : Int) (m : List Ent)
 | all (g : LG)
def Rec.kids : Rec → List Nd
 | .term t v => [Yi 0, Yi t.toNat, Yi (v + 1).toNat]
 | .add b m => [Yi 1, Yi b.toNat, Zm m]
 | .all g => [Yi 2, Yi g.term.toNat, Yi (g.vote + 1).toNat, Yi g.base.toNat, Yi g.baseT.toNat, Zh g.state, Zm g.all]
def Rec.nd (r : Rec) : Nd := .mk 2 0 [] r.kids
def be4 (n : Nat) : Bs := [UInt8.ofNat (n / 16777216 % 256), UInt8.ofNat (n / 65536 % 256), UInt8.ofNat (n / 256 % 256), UInt8.ofNat (n % 256)]
def Rec.bytes (r : Rec) : Bs := be4 (wr r.nd).length ++ wr r.nd
def QZ (l : List Rec) : Bs := (l.map Rec.bytes).flatten
def Rec.may (g : LG) : Rec → Prop
 | .term t v => QM t ∧ -1 ≤ v ∧ v < 9223372036854775807
 | .add b m => (g.base ≤ b ∧ b ≤ g.last) ∧ (∀ e ∈ m, QM e.1 ∧ e.2.length ≤ 1000000) ∧ m.length ≤ 100000
 | .all h => h.ok
def LG.play (g : LG) : Rec → LG
 | .term t v => { g with term := t, vote := v }
 | .add b m => { g with all := g.all.take (b - g.base).toNat ++ m }
 | .all h => { h with down := g.down }
inductive Plays : LG → List Rec → LG → Prop
 | nil (g : LG) : g.ok → Plays g [] g
 | cons {g h : LG} {r : Rec} {l : List Rec} : g.ok → r.may g → (wr r.nd).length ≤ 16777216 → Plays (g.play r) l h → Plays g (r :: l) h
theorem Plays.okR {g h : LG} {l : List Rec} (p : Plays g l h) : h.ok := by
 induction p with
 | nil g h => exact h
 | cons _ _ _ _ ih => exact ih
theorem Plays.snoc {g h : LG} {l : List Rec} {r : Rec} (p : Plays g l h) (hm : r.may h) (hl : (wr r.nd).length ≤ 16777216) (ho : (h.play r).ok) : Plays g (l ++ [r]) (h.play r) := by
 induction p with
 | nil g hg => exact .cons hg hm hl (.nil _ ho)
 | cons h1 h2 h3 _ ih => exact .cons h1 h2 h3 (ih hm ho)
theorem jW (l : List Rec) (r : Rec) : QZ (l ++ [r]) = QZ l ++ r.bytes := by simp [QZ]
theorem Yy (n : Nat) : (be4 n).length = 4 := rfl
def yl (l : Bs) : Nat := (l.getD 0 0).toNat * 16777216 + (l.getD 1 0).toNat * 65536 + (l.getD 2 0).toNat * 256 + (l.getD 3 0).toNat
theorem Qbo {n : Nat} (h : n < 4294967296) (r : Bs) : yl (be4 n ++ r) = n := by
 unfold yl be4
 simp
 omega
def ZL (t : Bs) : Prop := t.length < 4 ∨ t.length - 4 < yl t
theorem jR : ZL [] := .inl (by decide)
theorem QjB {r : Rec} (hl : (wr r.nd).length ≤ 16777216) {k : Nat} (hk : k < r.bytes.length) : ZL (r.bytes.take k) := by
 unfold Rec.bytes at hk ⊢
 simp only [List.length_append, Yy] at hk
 by_cases h4 : k < 4
 ·left; simp; omega
 ·right
  have e : (be4 (wr r.nd).length ++ wr r.nd).take k = be4 (wr r.nd).length ++ (wr r.nd).take (k - 4) := by
   rw [List.take_append, Yy, List.take_of_length_le (by rw [Yy]; omega)]
  rw [e, Qbo (by omega)]
  simp only [List.length_append, Yy, List.length_take]
  omega
theorem Qmh {e : Ent} (h : QM e.1) : OkN (YW e) := .mk (by decide) (fun x hx => by
 simp only [List.mem_cons, List.not_mem_nil, or_false] at hx
 unfold QM at h
 rcases hx with rfl | rfl
 ·exact .mk (by omega) (fun y hy => by cases hy)
 ·exact .mk (by decide) (fun y hy => by cases hy))
theorem ZV {n : Nat} (h : n < 18446744073709551616) : OkN (Yi n) := .mk h (fun y hy => by cases hy)
theorem Qgn (s : Bs) : OkN (Zh s) := .mk (by decide) (fun y hy => by cases hy)
theorem Qfa {l : List Ent} (h : ∀ e ∈ l, QM e.1) : OkN (Zm l) := .mk (by decide) (fun x hx => by
 obtain ⟨e, he, rfl⟩ := List.mem_map.1 hx; exact Qmh (h e he))
theorem Zu {n : Int} (h : QM n) : n.toNat < 18446744073709551616 ∧ ((n.toNat : Nat) : Int) = n := by unfold QM at h; omega
theorem Rec.kids_ok {g : LG} {r : Rec} (h : r.may g) (hg : g.ok) : ∀ x ∈ r.kids, OkN x := by
 intro x hx
 cases r with
 | term t v =>
  obtain ⟨h1, h2, h3⟩ := h
  simp only [Rec.kids, List.mem_cons, List.not_mem_nil, or_false] at hx
  rcases hx with rfl | rfl | rfl
  ·exact ZV (by decide)
  ·exact ZV (Zu h1).1
  ·exact ZV (by omega)
 | add b m =>
  obtain ⟨⟨h1, h2⟩, h3, h4⟩ := h
  have hb := hg.base
  have hn := hg.alln
  simp only [Rec.kids, List.mem_cons, List.not_mem_nil, or_false] at hx
  rcases hx with rfl | rfl | rfl
  ·exact ZV (by decide)
  ·exact ZV (by unfold LG.last at h2; omega)
  ·exact Qfa (fun e he => (h3 e he).1)
 | all k =>
  have h : k.ok := h
  have hb := h.base
  have hv := h.vote
  simp only [Rec.kids, List.mem_cons, List.not_mem_nil, or_false] at hx
  rcases hx with rfl | rfl | rfl | rfl | rfl | rfl | rfl
  ·exact ZV (by decide)
  ·exact ZV (Zu h.term).1
  ·exact ZV (by omega)
  ·exact ZV (by omega)
  ·exact ZV (Zu h.baseT).1
  ·exact Qgn _
  ·exact Qfa (fun e he => (h.all e he).1)
theorem Rec.okN {g : LG} {r : Rec} (h : r.may g) (hg : g.ok) : OkN r.nd := .mk (by decide) (Rec.kids_ok h hg)
theorem QdB (d n : Nat) : Xf (d + 1) (Yi n) = true := by simp [Xf, Yi]
theorem QdA (d : Nat) (s : Bs) : Xf (d + 1) (Zh s) = true := by simp [Xf, Zh]
theorem Qiy (d : Nat) (e : Ent) : Xf (d + 2) (YW e) = true := by
 have h1 := QdB d e.1.toNat
 have h2 := QdA d e.2
 rw [YW, Xf]; simp [h1, h2]
theorem Qhu (d : Nat) (l : List Ent) : Xf (d + 3) (Zm l) = true := by
 rw [Zm, Xf]
 simp [Qiy]
theorem Rec.right (r : Rec) : Xf 20 r.nd = true := by
 have h1 := QdB 18
 have h2 := QdA 18
 have h3 := Qhu 16
 cases r <;> (rw [Rec.nd, Xf]; simp [Rec.kids, h1, h2, h3])
theorem Rec.write (r : Rec) (hl : (wr r.nd).length ≤ 16777216) : Yk r.nd = (wr r.nd, true) := by
 unfold Yk; rw [if_pos ⟨r.right, hl⟩]
theorem Rec.read {g : LG} {r : Rec} (h : r.may g) (hg : g.ok) (hl : (wr r.nd).length ≤ 16777216) : Zl (wr r.nd) = (r.nd, true) := QeW (Rec.okN h hg) r.right hl
theorem QlJ (n : Nat) (h : n < 18446744073709551616) : (Xq n).length ≤ 8 := qA 8 n (by simpa using h)
theorem jT (n : Nat) (h : n ≤ 1000000) : (Xt n).length ≤ 3 := Za 2 n (by simp; omega)
theorem qb {n : Nat} (h : n < 18446744073709551616) : (wr (Yi n)).length ≤ 12 := by
 have h1 := QlJ n h
 have h2 := jT (Xq n).length (by omega)
 simp [wr, Yi]; omega
theorem Qel {s : Bs} (h : s.length ≤ 1000000) : (wr (Zh s)).length ≤ 4 + s.length := by
 have h2 := jT s.length h
 simp [wr, Zh]; omega
theorem QmD {e : Ent} (h : QM e.1) (hs : e.2.length ≤ 1000000) : (wr (YW e)).length ≤ 20 + e.2.length := by
 have h1 := qb (Zu h).1
 have h2 := Qel hs
 have h3 := jT 2 (by decide)
 have e3 : (Xt 2).length = 1 := by rw [Yp (by decide)]; rfl
 rw [YW, wr, if_neg (by decide), if_neg (by decide), wrs, wrs, wrs]
 simp [e3]; omega
def XG (l : List Ent) : Nat := (l.map fun e => 20 + e.2.length).sum
theorem Qek : ∀ {l : List Ent}, (∀ e ∈ l, QM e.1 ∧ e.2.length ≤ 1000000) → (wrs (l.map YW)).length ≤ XG l
 | [], _ => by simp [wrs, XG]
 | e :: l, h => by
  have h1 := QmD (h e (by simp)).1 (h e (by simp)).2
  have h2 := Qek (l := l) (fun e he => h e (by simp [he]))
  simp [wrs, XG] at h2 ⊢; omega
theorem Qge {l : List Ent} (h : ∀ e ∈ l, QM e.1 ∧ e.2.length ≤ 1000000) (hl : l.length ≤ 1000000) : (wr (Zm l)).length ≤ 4 + XG l := by
 have h1 := Qek h
 have h2 := jT l.length hl
 rw [Zm, wr, if_neg (by decide), if_neg (by decide)]
 simp; omega
theorem Rec.len_term {t v : Int} (h : QM t) (hv : -1 ≤ v ∧ v < 9223372036854775807) : (wr (Rec.term t v).nd).length ≤ 40 := by
 have h1 := qb (n := 0) (by decide)
 have h2 := qb (Zu h).1
 have h3 := qb (n := (v + 1).toNat) (by omega)
 have e3 : (Xt 3).length = 1 := by rw [Yp (by decide)]; rfl
 rw [Rec.nd, wr, if_neg (by decide), if_neg (by decide)]
 simp [Rec.kids, wrs, e3]; omega
theorem Rec.len_add {b : Int} {m : List Ent} (hb : 0 ≤ b ∧ b ≤ 10000000000000000) (h : ∀ e ∈ m, QM e.1 ∧ e.2.length ≤ 1000000) (hm : m.length ≤ 100000) : (wr (Rec.add b m).nd).length ≤ 40 + XG m := by
 have h1 := qb (n := 1) (by decide)
 have h2 := qb (n := b.toNat) (by omega)
 have h3 := Qge h (by omega)
 have e3 : (Xt 3).length = 1 := by rw [Yp (by decide)]; rfl
 rw [Rec.nd, wr, if_neg (by decide), if_neg (by decide)]
 simp [Rec.kids, wrs, e3]; omega
theorem Rec.len_all {g : LG} (h : g.ok) : (wr (Rec.all g).nd).length ≤ 100 + g.state.length + XG g.all := by
 have hb := h.base
 have hv := h.vote
 have h0 := qb (n := 2) (by decide)
 have h1 := qb (Zu h.term).1
 have h2 := qb (n := (g.vote + 1).toNat) (by omega)
 have h3 := qb (n := g.base.toNat) (by omega)
 have h4 := qb (Zu h.baseT).1
 have h5 := Qel h.state
 have h6 := Qge h.all (by have := h.alln; omega)
 have e3 : (Xt 7).length = 1 := by rw [Yp (by decide)]; rfl
 rw [Rec.nd, wr, if_neg (by decide), if_neg (by decide)]
 simp [Rec.kids, wrs, e3]; omega
section
variable {en : Int → PanicEntry} {P : Program} {f : FuncId} {args : List Value} {R : Hp} {L : List Asn} {res : Except Int Value} {v : Value}
end
section
variable {en : Int → PanicEntry} {c : Cx} {ops : Array Oper} {Q : Exit → Act → World → Prop} {E : Env} {R : Hp} {L : List Asn} {rest : List Oper} {ty : TypeId} {p : String} {af : Array Edge} {g : Option (Nat × Bool)}
theorem QjN {x : Operand} {t : TypeId} {u : Value} (hw : Wn c ops E ⟨none, .panic x, ty, p, af, g⟩ true) (e1 : ev E x = some (.iface t u))
  (h : EJ c (Q (.panic [⟨.iface t u, false, false⟩])) E R L) : RJ c ops Q (⟨none, .panic x, ty, p, af, g⟩ :: rest) E R L := by
 intro a w hf hs
 unfold wpList
 rw [if_pos (hw a hf)]
 refine .inl ?_
 have r : (execOp a.eval ⟨none, .panic x, ty, p, af, g⟩).run c.P w = .halt (.panic (.iface t u)) w := by
  simp [execOp, hf.ev e1, Instr.panic, goPanic]
 unfold Oper.wp
 rw [r]
 exact h a w hf hs
theorem Qcf {d : Option Tmp} {x : Operand} {t : TypeId} {fs : Array Field} {u : Value} (hT : c.P.underlying t = some (.struct fs)) (e1 : ev E x = some u) : Yld c E R L ⟨d, .makeInterface t x, ty, p, af, g⟩ (.iface t u) := fun a w hf hs => by
 have r : (Instr.makeInterface t u).run c.P w = .ok (.iface t u) w := by
  unfold Instr.makeInterface
  simp [run_underlying hT]
 simp [execOp, hf.ev e1, r, Oper.quietUpon]
end
def under (D : List Deferred) (a : Act) : Act := { a with defers := a.defers ++ D }
theorem qR (D : List Deferred) (a : Act) (d : Option Tmp) (v : Value) : (under D a).put d v = under D (a.put d v) := by cases d <;> rfl
theorem Qg9 {P : Program} {D : List Deferred} {o : Oper} {a : Act} {K K' : Act → World → Prop} {Q Q' : Exit → Act → World → Prop} {r : Result Next}
  (hK : ∀ a w, K a w → K' (under D a) w) (hQ : ∀ e a w, Q e a w → Q' e (under D a) w) (h : o.upon P a K Q r) : o.upon P (under D a) K' Q' r := by
 unfold Oper.upon at *
 split <;> simp_all
 ·rw [qR]; exact hK _ _ h
 ·rw [qR]; exact hK _ _ h
 ·rename_i d w'
  have e : ({ tmps := (under D a).tmps, defers := d :: (under D a).defers } : Act) = under D { tmps := a.tmps, defers := d :: a.defers } := rfl
  rw [e, qR]; exact hK _ _ h
 ·refine Calls.mono h fun e w' he => ?_
  cases e with
  | returned v => show K' _ _; rw [qR]; exact hK _ _ he
  | panicked ch => exact hQ _ _ _ he
  | outgrown => obtain ⟨a1, w1, h1⟩ := he; exact ⟨_, _, hQ _ _ _ h1⟩
 ·exact Rows.mono h fun v w' h => by rw [qR]; exact hK _ _ h
theorem qX {P : Program} {D : List Deferred} {ops : Array Oper} {Q Q' : Exit → Act → World → Prop} (hQ : ∀ e a w, Q e a w → Q' e (under D a) w) : ∀ (l : List Oper) (a : Act) (w : World),
  wpList P ops Q l a w → wpList P ops Q' l (under D a) w
 | [], a, w, h => hQ _ _ _ h
 | o :: l, a, w, h => by
  unfold wpList at h ⊢
  have ht : (under D a).tmps = a.tmps := rfl
  rw [ht]
  split
  ·rename_i hw
   rw [if_pos hw] at h
   rcases h with h | ⟨h1, a1, w1, h2⟩
   ·exact .inl (Qg9 (fun a w h => qX hQ l a w h) hQ h)
   ·exact .inr ⟨h1, _, _, hQ _ _ _ h2⟩
  ·rename_i hw
   rw [if_neg hw] at h
   rw [qR]; exact qX hQ l _ w h
def Qcc (σ : World) (R0 : Hp) (F : List Asn) (post : Value → Hp → List Asn → Prop) (pan : List PanicEntry → Hp → List Asn → Prop) : Ending → World → Prop :=
 fun e w' => ∃ R' L', R0.le R' ∧ Sat σ R' (L' ++ F) w' ∧
  match e with
  | .returned v => post v R' L'
  | .panicked ch => pan ch R' L'
  | .outgrown => False
def Qh7 (P : Program) (fn : Func) (σ : World) (R0 : Hp) (F : List Asn) (post : Value → Hp → List Asn → Prop) (pan : List PanicEntry → Hp → List Asn → Prop) : Exit → Act → World → Prop :=
 bodyPostD P fn (Qcc σ R0 F post pan)
theorem Qfv {P : Program} {fn : Func} {RR : Ending → World → Prop} {e : Exit} {a : Act} {w : World} (h : bodyPost P fn RR e a w) : bodyPostD P fn RR e a w := by
 cases e with
 | normal => obtain ⟨h1, v, h2, h3⟩ := h; show Leaves _ _ _ _ a.defers _ _; rw [h1]; exact ⟨v, h2, h3⟩
 | ret => obtain ⟨h1, v, h2, h3⟩ := h; show Leaves _ _ _ _ a.defers _ _; rw [h1]; exact ⟨v, h2, h3⟩
 | panic ch => obtain ⟨h1, h2⟩ := h; show Leaves _ _ _ _ a.defers _ _; rw [h1]; exact h2
 | outgrown => exact h
 | exit id => exact h
 | goto l => exact h
theorem Qeq {P : Program} {f n : Nat} {fn : Func} {body : Code} {args : List Value} {R : Hp} {L : List Asn} {post : Value → Hp → List Asn → Prop} {pan : List PanicEntry → Hp → List Asn → Prop}
  (hf : P.funcs[f]? = some fn) (hb : fn.body = some body) (hn : fn.ntmps = n) (ha : Nat.ble args.length n = true)
  (h : ∀ σ F (Q : Exit → Act → World → Prop), (∀ E R1 L1, EJ ⟨P, n, σ⟩ (jp P fn σ R F post pan .ret) E R1 L1 → EJ ⟨P, n, σ⟩ (Q .ret) E R1 L1) → (∀ E R1 L1, EJ ⟨P, n, σ⟩ (jp P fn σ R F post pan .normal) E R1 L1 → EJ ⟨P, n, σ⟩ (Q .normal) E R1 L1) →
   (∀ ch E R1 L1, EJ ⟨P, n, σ⟩ (jp P fn σ R F post pan (.panic ch)) E R1 L1 → EJ ⟨P, n, σ⟩ (Q (.panic ch)) E R1 L1) → (∀ e a w, Qh7 P fn σ R F post pan e a w → Q e a w) → CJ ⟨P, n, σ⟩ body Q (Qbm 0 args) R (L ++ F)) : Tri P f args R L post pan :=
 fun σ F w hs => calls_of_wp_defers hf hb (by rw [hn]; exact h σ F (Qh7 P fn σ R F post pan) (fun _ _ _ k a w hf hs => Qfv (k a w hf hs)) (fun _ _ _ k a w hf hs => Qfv (k a w hf hs)) (fun _ _ _ _ k a w hf hs => Qfv (k a w hf hs)) (fun _ _ _ k => k) _ w (Fr.start ha) hs)
def Qcj (P : Program) (fn : Func) (RR : Ending → World → Prop) (d : Deferred) : Exit → Act → World → Prop
 | .normal, a, w => a.defers = [] ∧ Leaves P fn a.tmps RR [d] .returning w
 | .panic ch, a, w => a.defers = [] ∧ Leaves P fn a.tmps RR [d] (.panicking ch) w
 | _, _, _ => False
theorem Qcv {c : Cx} {E : Env} {R R0 : Hp} {L F : List Asn} {fn : Func} {post : Value → Hp → List Asn → Prop} {pan : List PanicEntry → Hp → List Asn → Prop} {rs : List ResultVar} {vs : List Value} {a : Act} {w : World}
  (hr : fn.results = ⟨rs⟩) (hv : RVs c E R L rs vs) (R' : Hp) (L' : List Asn) (hR : R0.le R') (hRR : R' = R) (hS : Sub L (L' ++ F)) (hp : post (QF vs) R' L') (hf : Fr c.n E a) (hs : Sat c.σ R L w) :
  Leaves c.P fn a.tmps (Qcc c.σ R0 F post pan) [] .returning w := by
 have := XL (c := c) (pan := pan) hr hv R' L' hR hRR hS hp a w hf hs
 obtain ⟨_, v, h1, h2⟩ := this
 exact ⟨v, h1, h2⟩
def yT (cs : List Frame) : Value × List Frame := match recoverD cs with
 | some (v, cs') => (v, cs')
 | none => (.nilIface, cs)
theorem Qgf {P : Program} {Q : Exit → Act → List Frame → World → Prop} {a : Act} {cs cs' : List Frame} {w : World} {i d1 d2 n : Nat} {E : Env} {ty1 ty2 : TypeId} {p1 p2 : String} {af1 af2 : Array Edge} {rest : Code} {v : Value}
  (hf : Fr n E a) (hd1 : Nat.blt d1 n = true) (hd2 : Nat.blt d2 n = true) (hr : yT cs = (v, cs')) (h : ∀ a', Fr n ((d2, v) :: (d1, v) :: E) a' → rest.wpS P Q a' cs' w) :
  (Code.seq (.region i #[⟨some d1, .call { callee := .builtin .recover, args := #[], argTypes := #[] }, ty1, p1, af1, none⟩, ⟨some d2, .assign (.tmp d1), ty2, p2, af2, none⟩] false) rest).wpS P Q a cs w := by
 obtain ⟨o1, ho1⟩ : ∃ o : Oper, o = ⟨some d1, .call { callee := .builtin .recover, args := #[], argTypes := #[] }, ty1, p1, af1, none⟩ := ⟨_, rfl⟩
 obtain ⟨o2, ho2⟩ : ∃ o : Oper, o = ⟨some d2, .assign (.tmp d1), ty2, p2, af2, none⟩ := ⟨_, rfl⟩
 rw [← ho1, ← ho2]
 have g1 : o1.guard = none := by rw [ho1]
 have g2 : o2.guard = none := by rw [ho2]
 have k1 : o1.dst = some d1 := by rw [ho1]
 have k2 : o2.dst = some d2 := by rw [ho2]
 have r1 : ∀ (a : Act) w, (execOp a.eval o1).run P w = .ok .recover w := fun a w => by rw [ho1]; simp [execOp, resolve, invoke, builtin]
 refine wpS_seq (wpS_region ?_)
 show wpOpsS P #[o1, o2] _ [0, 1] a cs w
 unfold wpOpsS
 rw [show (#[o1, o2])[0]? = some o1 from rfl]
 simp only
 rw [if_pos (by simp [Region.wanted, g1]), r1]
 simp only
 have key : ∀ cs', yT cs = (v, cs') → ∀ a', Fr n ((d1, v) :: E) a' → (∀ a'', Fr n ((d2, v) :: (d1, v) :: E) a'' → rest.wpS P Q a'' cs' w) → wpOpsS P #[o1, o2] (Exit.thenS (rest.wpS P Q) Q) [1] a' cs' w := by
  intro cs' _ a' hf' h
  unfold wpOpsS
  rw [show (#[o1, o2])[1]? = some o2 from rfl]
  simp only
  have r2 : (execOp a'.eval o2).run P w = .ok (.value v) w := by
   rw [ho2]; simp [execOp, hf'.ev (x := .tmp d1) (v := v) (by simp [ev, lk])]
  rw [if_pos (by simp [Region.wanted, g2]), r2]
  simp only [Oper.upon]
  unfold wpOpsS
  refine h _ ?_
  rw [k2]; exact hf'.put hd2 v
 unfold yT at hr
 rw [k1]
 split at hr
 ·rename_i v1 cs1 hr1
  cases hr
  rw [hr1]
  exact key _ (by unfold yT; rw [hr1]) _ (hf.put hd1 v) h
 ·rename_i hr1
  cases hr
  rw [hr1]
  exact key _ (by unfold yT; rw [hr1]) _ (hf.put hd1 _) h
def QbO (ops : Array Oper) (fl : List Nat) : Option Nat → List Nat → Bool
 | _, [] => true
 | r, i :: l => (match r with | none => true | some k => YQ ops ops.size i k) &&
   (l.all fun j => !(fl.contains i || fl.contains j) || (!XP ops i j && !Ze ops i j && !Ze ops j i && (!XP ops j i || YQ ops ops.size j i))) &&
   QbO ops fl (if fl.contains i then r else some i) l
def QmT (ops : Array Oper) (fl l : List Nat) : Bool :=
 QbX ops && ((List.range ops.size).all fun i => l.contains i) && l.Nodup && (l.all fun i => Nat.blt i ops.size && qF ops i) && (fl.all fun i => !XP ops i i) && QbO ops fl none l
section
variable {c : Cx} {ops : Array Oper} {Q : Exit → Act → World → Prop} {R : Hp} {L : List Asn}
theorem QK.mono {x : Nat × Value} {a : Act} {R' : Hp} (hR : R.le R') (q : QK c ops R L x a) : QK c ops R' L x a := by
 obtain ⟨o, ho, hs, hq⟩ := q
 exact ⟨o, ho, hs, fun R2 hR2 G w hw => hq R2 (Hp.le_trans hR hR2) G w hw⟩
theorem QK.spec {i : Nat} {E E' : Env} {v : Value} {a : Act} (hs : qF ops i = true) (h : Qeg c ops R L i E v E') (hf : Fr c.n E a) : QK c ops R L (i, v) a ∧ Fr c.n E' (a.put (XC ops i) v) := by
 obtain ⟨o, d, ho, hd, hn, rfl, hspec⟩ := h
 have hda : XC ops i = some d := by simp [XC, ho, hd]
 refine ⟨⟨o, ho, qs ho hs, fun R' hR G w hw => ?_⟩, by rw [hda]; exact hf.put hn v⟩
 rcases hspec with ⟨hw1, hy⟩ | ⟨hw1, hy⟩
 ·exact .inl ⟨hw1 a hf, hy R' hR G a w hf hw⟩
 ·exact .inr ⟨hw1 a hf, hy⟩
def Qk3 (ops : Array Oper) (i j : Nat) : Prop := XP ops i j = false ∧ Ze ops i j = false ∧ Ze ops j i = false ∧ (XP ops j i = false ∨ YQ ops ops.size j i = true)
theorem QaJ {fl : List Nat} {r : Option Nat} {i : Nat} {l : List Nat} (h : QbO ops fl r (i :: l) = true) :
  (∀ k, r = some k → YQ ops ops.size i k = true) ∧ (∀ j ∈ l, i ∈ fl ∨ j ∈ fl → Qk3 ops i j) ∧ QbO ops fl (if i ∈ fl then r else some i) l = true := by
 unfold QbO at h
 simp only [Bool.and_eq_true, List.all_eq_true, Bool.or_eq_true, Bool.not_eq_true'] at h
 obtain ⟨⟨h1, h2⟩, h3⟩ := h
 refine ⟨fun k hk => by subst hk; exact h1, fun j hj hij => ?_, ?_⟩
 ·rcases h2 j hj with h | h
  ·simp only [Bool.or_eq_false_iff] at h
   rcases hij with hx | hx
   ·have := h.1; rw [show fl.contains i = true from by simpa using hx] at this; cases this
   ·have := h.2; rw [show fl.contains j = true from by simpa using hx] at this; cases this
  ·exact ⟨h.1.1.1, h.1.1.2, h.1.2, h.2⟩
 ·by_cases hi : i ∈ fl
  ·rw [if_pos hi]; rw [if_pos (by simpa using hi)] at h3; exact h3
  ·rw [if_neg hi]; rw [if_neg (by simpa using hi)] at h3; exact h3
theorem QbN {fl : List Nat} : ∀ {l : List Nat} {k i : Nat}, QbO ops fl (some k) l = true → i ∈ l → ∃ j, (j = k ∨ j ∈ l) ∧ YQ ops ops.size i j = true
 | [], _, _, _, h => by cases h
 | m :: l, k, i, h, hi => by
  obtain ⟨h1, _, h3⟩ := QaJ h
  rcases List.mem_cons.1 hi with rfl | hi'
  ·exact ⟨k, .inl rfl, h1 k rfl⟩
  ·by_cases hm : m ∈ fl
   ·rw [if_pos hm] at h3
    obtain ⟨j, hj, ha⟩ := QbN h3 hi'
    exact ⟨j, hj.imp id (fun h => by simp [h]), ha⟩
   ·rw [if_neg hm] at h3
    obtain ⟨j, hj, ha⟩ := QbN h3 hi'
    rcases hj with rfl | hj
    ·exact ⟨j, .inr (by simp), ha⟩
    ·exact ⟨j, .inr (by simp [hj]), ha⟩
end
section
variable {c : Cx} {l : List Oper} {Q : Exit → Act → World → Prop} {E : Env} {R : Hp} {L : List Asn}
variable {fl is : List Nat} {G : List Asn}
end
def lgC (d : Option Addr) (v : Value) (g : LG) : List Value := [.pointer d, .bool g.down, .int .u64 g.term, .int .i64 g.vote, .int .u64 g.base, .int .u64 g.baseT, .string (str g.state), v]
@[reducible] def lgB (b : Nat) (d : Option Addr) (v : Value) (g : LG) : Asn := blk b (lgC d v g) 111
theorem yv {R : Hp} (b bd : Nat) (v u : Value) (g : LG) (D : DK) : QTri prog 59 [.pointer (some ⟨b, 0, none⟩)] R [lgB b (some ⟨bd, 0, none⟩) v g, dkB bd u D] (.bool (g.down || D.down)) := by
 refine Tri.q ?_
 unfold lgB lgC
 refine Qn func59 rfl ntmps59 rfl (fun σ F Q hret hend hpan => ?_)
 try simp only [cB]
 refine Qd fun K1 hK1 => Qc (Ps (Qe (hK1 _ _ _ (Qd fun K2 hK2 => Qc ?_))))
 refine Pm ?_
 refine Pa (XV underlying55 rfl rfl) (Pm ?_)
 refine Pb (Qg rfl) ?_
 refine Pb (Qf rfl) ?_
 refine Pb (Ga underlying111 sizeOf4) ?_
 refine Pb (La o4) ?_
 refine Pa (Qo rfl rfl) (Pm ?_)
 refine QE 11 rfl (fun hg11 => ?_) (fun hg11 => ?_)
 try simp only [dx] at hg11
 refine Pk (Pk (Pk (Pk (Pk ?_))))
 refine Pa (Qr rfl rfl) (Ps (Qe (hK2 _ _ _ (Qi (hret _ _ _ ?_)))))
 refine Ea results59 (.cons (Qh rfl) .nil) [lgB b (some ⟨bd, 0, none⟩) v g, dkB bd u D] le_ ?_
 refine ⟨?_, rfl, rfl⟩; simp_all [QF]
 try simp only [dx] at hg11
 refine Pb (Qg rfl) ?_
 refine Pb (Qf rfl) ?_
 refine Pb (Ga underlying111 sizeOf83) ?_
 refine Pb (La o83) ?_
 refine Pb (Ca call85 (Qfx bd u D)) ?_
 refine Pa (Qo rfl rfl) (Ps (Qe (hK2 _ _ _ ?_)))
 refine Ql (eL 2 rfl eN) ?_
 refine Qi (hret _ _ _ ?_)
 refine Ea results59 (.cons (Qh rfl) .nil) [lgB b (some ⟨bd, 0, none⟩) v g, dkB bd u D] le_ ?_
 refine ⟨?_, rfl, rfl⟩; simp_all [QF]
theorem YV {R : Hp} (b : Nat) (d : Option Addr) (v : Value) (g : LG) : QTri prog 24 [.pointer (some ⟨b, 0, none⟩)] R [lgB b d v g] (.int .u64 g.term) := by
 refine Tri.q ?_
 unfold lgB lgC
 refine Qn func24 rfl ntmps24 rfl (fun σ F Q hret hend hpan => ?_)
 try simp only [cB]
 refine Qd fun K1 hK1 => Qc (Ps (Qe (hK1 _ _ _ (Qd fun K2 hK2 => Qd fun K3 hK3 => Qc ?_))))
 refine Pm ?_
 refine Pa (XV underlying55 rfl rfl) (Qe (hK3 _ _ _ (Qs rfl (Qj (hK2 _ _ _ (Qd fun K4 hK4 => Qc ?_))))))
 refine Pm ?_
 refine Pa (Qf rfl) ?_
 refine Pa (Ga underlying111 sizeOf36) ?_
 refine Pa (La o36) (Ps (Qe (hK4 _ _ _ (Qi (hret _ _ _ ?_)))))
 refine Ea results24 (.cons (Qh rfl) .nil) [lgB b d v g] le_ ?_
 exact ⟨rfl, rfl, rfl⟩
theorem Qfb {R : Hp} (b : Nat) (d : Option Addr) (v : Value) (g : LG) : QTri prog 96 [.pointer (some ⟨b, 0, none⟩)] R [lgB b d v g] (.int .i64 g.vote) := by
 refine Tri.q ?_
 unfold lgB lgC
 refine Qn func96 rfl ntmps96 rfl (fun σ F Q hret hend hpan => ?_)
 try simp only [cB]
 refine Qd fun K1 hK1 => Qc (Ps (Qe (hK1 _ _ _ (Qd fun K2 hK2 => Qd fun K3 hK3 => Qc ?_))))
 refine Pm ?_
 refine Pa (XV underlying55 rfl rfl) (Qe (hK3 _ _ _ (Qs rfl (Qj (hK2 _ _ _ (Qd fun K4 hK4 => Qc ?_))))))
 refine Pm ?_
 refine Pa (Qf rfl) ?_
 refine Pa (Ga underlying111 sizeOf3) ?_
 refine Pa (La o3) (Ps (Qe (hK4 _ _ _ (Qi (hret _ _ _ ?_)))))
 refine Ea results96 (.cons (Qh rfl) .nil) [lgB b d v g] le_ ?_
 exact ⟨rfl, rfl, rfl⟩
theorem yw {R : Hp} (b : Nat) (d : Option Addr) (v : Value) (g : LG) : QTri prog 25 [.pointer (some ⟨b, 0, none⟩)] R [lgB b d v g] (QF [.int .u64 g.base, .int .u64 g.baseT, .string (str g.state)]) := by
 refine Tri.q ?_
 unfold lgB lgC
 refine Qn func25 rfl ntmps25 rfl (fun σ F Q hret hend hpan => ?_)
 try simp only [cB]
 refine Qd fun K1 hK1 => Qc (Ps (Ps (Ps (Qe (hK1 _ _ _ (Qd fun K2 hK2 => Qd fun K3 hK3 => Qc ?_))))))
 refine Pm ?_
 refine Pa (XV underlying55 rfl rfl) (Qe (hK3 _ _ _ (Qs rfl (Qj (hK2 _ _ _ (Qd fun K4 hK4 => ?_))))))
 refine Xr (by kernel_rfl) (by kernel_rfl) ?_
 refine Qa (Qg rfl) ?_
 refine Qa (Qf rfl) ?_
 refine Qa (Ga underlying111 sizeOf36) ?_
 refine Qa (La o36) ?_
 refine Qa (Qg rfl) ?_
 refine Qa (Qf rfl) ?_
 refine Qa (Ga underlying111 sizeOf36) ?_
 refine Qa (La o36) ?_
 refine Qa (Qg rfl) ?_
 refine Qa (Qf rfl) ?_
 refine Qa (Ga underlying111 sizeOf9) ?_
 refine Qa (La o9) ?_
 refine Qa (Xj rfl) ?_
 refine Qa (Xj rfl) ?_
 refine Qa (Xj rfl) ?_
 refine Xb ?_
 refine hK4 _ _ _ ?_
 refine Ql (eL 2 rfl (eL 3 rfl (eL 4 rfl eN))) ?_
 refine Qi (hret _ _ _ ?_)
 refine Ea results25 (.cons (Qh rfl) (.cons (Qh rfl) (.cons (Qh rfl) .nil))) [lgB b d v g] le_ ?_
 exact ⟨rfl, rfl, rfl⟩
theorem YC {R : Hp} (b : Nat) (d : Option Addr) (v : Value) (g : LG) (hg : g.ok) (hv : FrX entE R g.all v) : QTri prog 60 [.pointer (some ⟨b, 0, none⟩)] R [lgB b d v g] (.int .u64 g.last) := by
 obtain ⟨q, cap, rfl, _, _⟩ := hv.shape
 have hb := hg.base
 have hn := hg.alln
 refine Tri.q ?_
 unfold lgB lgC
 refine Qn func60 rfl ntmps60 rfl (fun σ F Q hret hend hpan => ?_)
 try simp only [cB]
 refine Qd fun K1 hK1 => Qc (Ps (Qe (hK1 _ _ _ (Qd fun K2 hK2 => Qd fun K3 hK3 => Qc ?_))))
 refine Pm ?_
 refine Pa (XV underlying55 rfl rfl) (Qe (hK3 _ _ _ (Qs rfl (Qj (hK2 _ _ _ (Qd fun K4 hK4 => ?_))))))
 refine Xr (by kernel_rfl) (by kernel_rfl) ?_
 refine Qa (Qg rfl) ?_
 refine Qa (Qf rfl) ?_
 refine Qa (Ga underlying111 sizeOf36) ?_
 refine Qa (La o36) ?_
 refine Qa (Qg rfl) ?_
 refine Qa (Qf rfl) ?_
 refine Qa (Ga underlying111 sizeOf76) ?_
 refine Qa (La o76) ?_
 refine Qa (QR underlying76 rfl) ?_
 refine Qa (Xp underlying3 underlying36 rfl (by (simp only [IntKind.min, IntKind.max, IntKind.signed, IntKind.bits, Bool.false_eq_true, ite_false, ite_true]; omega))) ?_
 refine Qa (Zq rfl rfl om_) ?_
 refine Qa (Xj rfl) ?_
 refine Xb ?_
 refine hK4 _ _ _ (Qi (hret _ _ _ ?_))
 refine Ea results60 (.cons (Qh rfl) .nil) [lgB b d (.slice q g.all.length cap) g] le_ ?_
 exact ⟨rfl, rfl, rfl⟩
def Qkw (o : Option Ent) : Value := match o with
 | some e => QF [.agg ⟨Yu e⟩, .bool true]
 | none => QF [.agg ⟨Yu (0, [])⟩, .bool false]
def Qj5 (o : Option Int) : Value := match o with
 | some e => QF [.int .u64 e, .bool true]
 | none => QF [.int .u64 0, .bool false]
theorem Qcu {R : Hp} (b : Nat) (d : Option Addr) (v : Value) (g : LG) (hg : g.ok) (hv : FrX entE R g.all v) (i : Int) (hi : QM i) : QTri prog 40 [.pointer (some ⟨b, 0, none⟩), .int .u64 i] R [lgB b d v g] (Qkw (g.at i)) := by
 obtain ⟨q, cap, rfl, _, _⟩ := hv.shape
 have hb := hg.base
 have hn := hg.alln
 have hl := YC (R := R) b d _ g hg hv
 have hle : g.last = g.base + g.all.length := rfl
 unfold QM at hi
 refine Tri.q2 ?_
 unfold lgB lgC at hl ⊢
 refine Qn func40 rfl ntmps40 rfl (fun σ F Q hret hend hpan => ?_)
 try simp only [cB]
 refine Qd fun K1 hK1 => Qc ?_
 refine QA (wn0 rfl) rfl zeroValue93 rfl (fun b4 => ?_)
 refine Ps (Qe (hK1 _ _ _ (Qd fun K2 hK2 => Qd fun K3 hK3 => Qc ?_)))
 refine Pm ?_
 refine Pa (XV underlying55 rfl rfl) (Pm ?_)
 refine Pb (Qg rfl) ?_
 refine Pb (Qg rfl) ?_
 refine Pb (Qf rfl) ?_
 refine Pb (Ga underlying111 sizeOf36) ?_
 refine Pb (La o36) ?_
 refine Pb (zG rfl rfl) ?_
 refine Pa (Qo rfl rfl) (Pm ?_)
 refine QE 16 rfl (fun hg16 => ?_) (fun hg16 => ?_)
 have f1 : ¬ g.base < i := by (try simp at hg16); omega
 refine Pk (Pk (Pk (Pk ?_)))
 refine Pa (Qr rfl rfl) (Qe (hK3 _ _ _ (Qv rfl (Qd fun K4 hK4 => Qc ?_))))
 refine Pa (QV (cells := [_, _]) [(0, 1), (1, 1)] underlying93 zeroValue93 (fun _ => rfl) rfl rfl) ?_
 refine Sm (vs := Yu (0, [])) m93 (entE.one (R := R) (x := (0, [])) rfl) ?_
 refine Ps (Qe (hK4 _ _ _ ?_))
 refine Ql (eL 4 rfl (eL 5 rfl eN)) ?_
 refine Qi (hret _ _ _ ?_)
 refine Ea results40 (.cons (QN m93 rfl fd_ rfl rfl) (.cons (Qh rfl) .nil)) [lgB b d (.slice q g.all.length cap) g] le_ ?_
 rw [show g.at i = none by unfold LG.at; rw [if_neg (fun h => f1 h.1)]]; exact ⟨rfl, rfl⟩
 have f1 : g.base < i := by (try simp at hg16); omega
 refine Pb (Qg rfl) ?_
 refine Pb (Qg rfl) ?_
 refine Pb (Ca call60 (hl)) ?_
 refine Pb (Xs rfl rfl) ?_
 refine Pa (Qo rfl rfl) (Qe (hK3 _ _ _ ?_))
 refine Qm rfl (fun hc21 => ?_) (fun hc21 => ?_)
 have f2 : ¬ i ≤ g.last := by (try simp at hc21); omega
 refine Qd fun K6 hK6 => Qc ?_
 refine Pa (QV (cells := [_, _]) [(0, 1), (1, 1)] underlying93 zeroValue93 (fun _ => rfl) rfl rfl) ?_
 refine Sm (vs := Yu (0, [])) m93 (entE.one (R := R) (x := (0, [])) rfl) ?_
 refine Ps (Qe (hK6 _ _ _ (Qi (hret _ _ _ ?_))))
 refine Ea results40 (.cons (QN m93 rfl fd_ rfl rfl) (.cons (Qh rfl) .nil)) [lgB b d (.slice q g.all.length cap) g] le_ ?_
 rw [show g.at i = none by unfold LG.at; rw [if_neg (fun h => f2 h.2)]]; exact ⟨rfl, rfl⟩
 have f2 : i ≤ g.last := by (try simp at hc21); omega
 refine Qj (hK2 _ _ _ (Qd fun K7 hK7 => ?_))
 have hat : g.at i = g.all[(i - g.base - 1).toNat]? := by unfold LG.at; rw [if_pos ⟨f1, f2⟩]
 obtain ⟨e, he⟩ : ∃ e, g.all[(i - g.base - 1).toNat]? = some e := ⟨_, List.getElem?_eq_getElem (by omega)⟩
 obtain ⟨be, oe, ce, cse, hee, rfl, _, hcell⟩ := hv.at he
 obtain ⟨rfl, rfl⟩ : q = some ⟨be, oe, none⟩ ∧ cap = ce := by cases hee; exact ⟨rfl, rfl⟩
 refine Xd (L := [blk b [.pointer d, .bool g.down, .int .u64 g.term, .int .i64 g.vote, .int .u64 g.base, .int .u64 g.baseT, .string (str g.state), .slice (some ⟨be, oe, none⟩) g.all.length cap] 111]) [0, 1, 2, 3, 4, 5, 6, 7, 8, 9, 10, 11, 12] [] [13, 14] _ sb_ (by kernel_rfl) (by kernel_rfl) (by kernel_rfl) rfl ?_
 refine Wa rfl (fun R1 hR1 G => (Qg rfl)) ?_
 refine Wa rfl (fun R1 hR1 G => (Qf rfl)) ?_
 refine Wa rfl (fun R1 hR1 G => (Ga underlying111 sizeOf76)) ?_
 refine Wa rfl (fun R1 hR1 G => (La o76)) ?_
 refine Wa rfl (fun R1 hR1 G => (Qg rfl)) ?_
 refine Wa rfl (fun R1 hR1 G => (Qg rfl)) ?_
 refine Wa rfl (fun R1 hR1 G => (Qf rfl)) ?_
 refine Wa rfl (fun R1 hR1 G => (Ga underlying111 sizeOf36)) ?_
 refine Wa rfl (fun R1 hR1 G => (La o36)) ?_
 refine Wa rfl (fun R1 hR1 G => (ZE rfl rfl (by omega))) ?_
 refine Wa rfl (fun R1 hR1 G => (ZE rfl rfl (by omega))) ?_
 refine Wa rfl (fun R1 hR1 G => (Qy underlying76 sizeOf93 rfl rfl om_)) ?_
 refine Wa rfl (fun R1 hR1 G => (XT m93 (vs := Yu e) rfl rfl (fun j u hj => Ye hR1 (hcell j u hj)))) ?_
 refine Xc ?_
 refine Xe ?_
 try simp only [cC]
 refine Sm (vs := Yu e) m93 (entE.one (R := R) (x := e) rfl) ?_
 refine Ps (Qe (hK7 _ _ _ ?_))
 refine Ql (eL 4 rfl (eL 5 rfl eN)) ?_
 refine Qi (hret _ _ _ ?_)
 refine Ea results40 (.cons (QN m93 rfl fd_ rfl rfl) (.cons (Qh rfl) .nil)) [lgB b d (.slice (some ⟨be, oe, none⟩) g.all.length cap) g] le_ ?_
 rw [hat, he]; exact ⟨rfl, rfl⟩
theorem yW {R : Hp} (b : Nat) (d : Option Addr) (v : Value) (g : LG) (hg : g.ok) (hv : FrX entE R g.all v) (i : Int) (hi : QM i) : QTri prog 100 [.pointer (some ⟨b, 0, none⟩), .int .u64 i] R [lgB b d v g] (Qj5 (g.termAt i)) := by
 have ha := Qcu (R := R) b d v g hg hv i hi
 have hvo := hv.one
 refine Tri.q2 ?_
 unfold lgB lgC at ha ⊢
 refine Qn func100 rfl ntmps100 rfl (fun σ F Q hret hend hpan => ?_)
 try simp only [cB]
 refine Qd fun K1 hK1 => Qc (Ps (Ps (Qe (hK1 _ _ _ (Qd fun K2 hK2 => Qd fun K3 hK3 => Qc ?_)))))
 refine Pm ?_
 refine Pa (qa underlying55 rfl rfl) (Pm ?_)
 refine Pb (Qg rfl) ?_
 refine Pb (Qg rfl) ?_
 refine Pb (Qf rfl) ?_
 refine Pb (Ga underlying111 sizeOf36) ?_
 refine Pb (La o36) ?_
 refine Pb (QB rfl rfl) ?_
 refine Pa (Qr rfl rfl) (Qe (hK3 _ _ _ ?_))
 refine Qm rfl (fun hc17 => ?_) (fun hc17 => ?_)
 have f1 : i = g.base := by simpa using hc17
 refine Qd fun K5 hK5 => Qc (Pm ?_)
 refine Pa (Qf rfl) ?_
 refine Pa (Ga underlying111 sizeOf36) ?_
 refine Pa (La o36) (Ps (Ps (Qe (hK5 _ _ _ ?_))))
 refine Ql (eL 4 rfl (eL 5 rfl eN)) ?_
 refine Qi (hret _ _ _ ?_)
 refine Ea results100 (.cons (Qh rfl) (.cons (Qh rfl) .nil)) [lgB b d v g] le_ ?_
 unfold LG.termAt; rw [if_pos f1]; exact ⟨rfl, rfl⟩
 have f1 : ¬ i = g.base := by simpa using hc17
 refine Qj (hK2 _ _ _ (Qd fun K6 hK6 => Qc (Pm (Pm ?_))))
 refine Pa (Ca call40 (ha)) ?_
 obtain ⟨e, ok, hev, htm⟩ : ∃ (e : Ent) (ok : Bool), Qkw (g.at i) = QF [.agg ⟨Yu e⟩, .bool ok] ∧ Qj5 (g.termAt i) = QF [.int .u64 e.1, .bool ok] := by unfold LG.termAt; rw [if_neg f1]; cases g.at i with | none => exact ⟨(0, []), false, rfl, rfl⟩ | some e => exact ⟨e, true, rfl, rfl⟩
 refine Xg 25 rfl (v' := QF [.agg ⟨Yu e⟩, .bool ok]) hev ?_
 refine Pm ?_
 refine Pa (Qq rfl rfl) ?_
 refine Pa (Qq rfl rfl) ?_
 refine QA (wn0 rfl) rfl zeroValue93 rfl (fun b6 => ?_)
 refine Sm (vs := Yu e) m93 (entE.one (R := R) (x := e) rfl) ?_
 refine Ps (Qe (hK6 _ _ _ (Qd fun K7 hK7 => Qc ?_)))
 refine Pa (Ga underlying93 sizeOf36) ?_
 refine Pa (La o36) (Pm (Ps (Ps (Qe (hK7 _ _ _ (Qi (hret _ _ _ ?_)))))))
 refine Ea results100 (.cons (Qh rfl) (.cons (Qh rfl) .nil)) [lgB b d v g] le_ ?_
 rw [htm]; exact ⟨rfl, rfl⟩
def Qah (l : List Int) : List Value := l.map (Value.int .i64 ·)
def QhQ : Elt Int where
 P := fun _ n cs => cs = [.int .i64 n]
 sz := 1
 mono := fun _ h => h
 len := fun h => by subst h; rfl
 one := fun h u hu => by subst h; simp at hu; subst hu; rfl
theorem QhP (l : List Int) : Qah l = (l.map fun n => [Value.int .i64 n]).flatten := by
 induction l with
 | nil => rfl
 | cons a l ih => simp [Qah] at ih ⊢; exact ih
theorem Qcy {R : Hp} {l : List Int} {v : Value} (h : FrozenS R v l.length (Qah l)) : FrX QhQ R l v := by
 rw [QhP] at h
 refine FrozenS.frx h ⟨by simp, fun i x cs h1 h2 => ?_⟩
 rw [List.getElem?_map, h1] at h2
 simpa [QhQ] using h2.symm
theorem QjJ {R : Hp} {x : Nd} {cs : List Value} (hx : RepN R x cs) (k : Int) : QTri prog 118 [.agg ⟨cs⟩, .int .i64 k] R [] (.bool (decide (x.kind = k))) := by
 obtain ⟨kk, n, s, l, q, cap, rfl, rfl, hs, hl⟩ := hx.inv
 refine Tri.q2 ?_
 refine Qn func118 rfl ntmps118 rfl (fun σ F Q hret hend hpan => ?_)
 try simp only [cB]
 refine Qd fun K1 hK1 => Qc ?_
 refine Xa (wn0 rfl) rfl rfl rfl (fun b2 => ?_)
 refine Ps (Qe (hK1 _ _ _ (Qd fun K2 hK2 => Qc ?_)))
 refine Pa (Ga underlying150 sizeOf3) ?_
 refine Pa (La o3) (Pm ?_)
 refine Pa (QB rfl rfl) (Ps (Qe (hK2 _ _ _ (Qi (hret _ _ _ ?_)))))
 refine Ea results118 (.cons (Qh rfl) .nil) [] le_ ?_
 exact ⟨rfl, rfl⟩
theorem Qd6 {l : List Nd} {ks : List Int} {i : Nat} {x : Nd} {k : Int} (h : (l.take i).map Nd.kind = ks.take i) (hx : l[i]? = some x) (hk : ks[i]? = some k) (e : x.kind = k) : (l.take (i + 1)).map Nd.kind = ks.take (i + 1) := by
 rw [List.take_add_one, List.take_add_one, hx, hk]; simp [h, e]
theorem Qkt {R : Hp} (l : List Nd) (q : Option Addr) (cap : Nat) (hl : RepL R l q cap) (ks : List Int) (v : Value) (hk : FrX QhQ R ks v) :
  QTri prog 117 [.slice q l.length cap, v, .func (.func 118) ⟨[]⟩ ⟨[]⟩] R [] (.bool (decide (l.map Nd.kind = ks))) := by
 obtain ⟨qk, capk, rfl, hck, hcm⟩ := hk.shape
 have hlb : ks.length ≤ maxLen := Nat.le_trans hck hcm
 have hll : l.length ≤ big := by obtain ⟨_, h, _⟩ := hl; exact h
 unfold maxLen at hlb
 unfold big at hll
 refine Tri.q2 ?_
 refine Qn func117 rfl ntmps117 rfl (fun σ F Q hret hend hpan => ?_)
 try simp only [cB]
 refine Qd fun K1 hK1 => Qc (Ps (Qe (hK1 _ _ _ (Qd fun K2 hK2 => Qd fun K3 hK3 => Qc ?_))))
 refine Pm ?_
 refine Pa (QR underlying148 rfl) (Pm ?_)
 refine Pa (QR underlying187 rfl) ?_
 refine Pa (XU rfl rfl) (Qe (hK3 _ _ _ ?_))
 refine Qm rfl (fun hc14 => ?_) (fun hc14 => ?_)
 have hne : ¬ l.map Nd.kind = ks := fun h => by have := congrArg List.length h; simp at this; (try simp at hc14); omega
 refine Qd fun K5 hK5 => Qc (Ps (Qe (hK5 _ _ _ (Qi (hret _ _ _ ?_)))))
 refine Ea results117 (.cons (Qh rfl) .nil) [] le_ ?_
 rw [decide_eq_false hne]; exact ⟨rfl, rfl⟩
 have hll2 : l.length = ks.length := by (try simp at hc14); omega
 refine Qj (hK2 _ _ _ (Qd fun K6 hK6 => Qd fun K7 hK7 => Qc (Pm ?_)))
 refine Pa (QR underlying148 rfl) (Pm (Qe (hK7 _ _ _ (Qp ?_))))
 refine Ql (E' := (fun (x : Nat) => [(1, .slice qk ks.length capk), (2, .func (.func 118) ⟨[]⟩ ⟨[]⟩), (15, .slice q l.length cap), (16, .int .i64 (l.length : Int)), (17, .int .i64 (x : Int))]) 0) (eC rfl (eC rfl (eC rfl (eC rfl (eC rfl eN))))) ?_
 refine Xi (M := (fun (x : Nat) => F) 0) sb_ ?_
 refine QY (fun (x : Nat) => [(1, .slice qk ks.length capk), (2, .func (.func 118) ⟨[]⟩ ⟨[]⟩), (15, .slice q l.length cap), (16, .int .i64 (l.length : Int)), (17, .int .i64 (x : Int))]) (fun (x : Nat) => R) (fun (x : Nat) => F) (fun (x : Nat) => x ≤ l.length ∧ (l.take x).map Nd.kind = ks.take x) (fun (x : Nat) => l.length - x) 0 (⟨by simp, by simp⟩) ?_
 rintro i ⟨hi, hal⟩
 try dsimp only
 refine Qd fun K8 hK8 => Qc ?_
 refine Pa (QO rfl rfl) (Qe (hK8 _ _ _ (Qd fun K9 hK9 => ?_)))
 refine Qm rfl (fun hc18 => ?_) (fun hc18 => ?_)
 try simp only [dx] at hc18
 refine Qj (hK9 _ _ _ (Qd fun K11 hK11 => Qp (Qd fun K12 hK12 => Qc ?_)))
 have hi2 : i < l.length := by (try simp at hc18); omega
 obtain ⟨x, hx⟩ : ∃ x, l[i]? = some x := ⟨_, List.getElem?_eq_getElem hi2⟩
 obtain ⟨k, hkx⟩ : ∃ x, ks[i]? = some x := ⟨_, List.getElem?_eq_getElem (by omega)⟩
 obtain ⟨bx, ox, cx, rfl, hcl, hrep, hcell⟩ := hl.at hx
 obtain ⟨bk, ok, ck, ck0, hek, rfl, _, hcellk⟩ := hk.at hkx
 obtain ⟨rfl, rfl⟩ : qk = some ⟨bk, ok, none⟩ ∧ capk = ck := by cases hek; exact ⟨rfl, rfl⟩
 refine Pm ?_
 refine Pa (Qy underlying148 sizeOf150 rfl rfl om_) ?_
 refine Pa ((XT Qw (vs := cx) hcl rfl (fun j u hj => hcell j u hj))) ?_
 refine QA (wn0 rfl) rfl zeroValue150 rfl (fun b8 => ?_)
 refine Ps ?_
 refine yP (vs := cx) Qw hcl (wn0 rfl) rfl rfl (ZU hrep) fd_ rfl ?_
 refine Qe (hK12 _ _ _ (Qd fun K13 hK13 => Qc (Pm (Pm ?_))))
 refine Pa (Qy underlying187 sizeOf3 rfl rfl om_) ?_
 refine Pa ((Xw o3 rfl (hcellk 0 (.int .i64 k) rfl))) (Ps (Qe (hK13 _ _ _ ?_)))
 refine Ql (eL 1 rfl (eL 2 rfl (eL 8 rfl (eL 9 rfl (eL 15 rfl (eL 16 rfl (eL 17 rfl eN))))))) ?_
 refine Qd fun K14 hK14 => Qc (Pm ?_)
 refine Pa ((Qbw (vs := cx) Qw hcl rfl fd_)) (Pm ?_)
 refine Pa (Qgc rfl call118 rfl (QjJ hrep k) sp_) ?_
 refine Pa (Yq rfl) (Qe (hK14 _ _ _ ?_))
 refine Qm rfl (fun hc30 => ?_) (fun hc30 => ?_)
 have hne : ¬ l.map Nd.kind = ks := fun h => by have h1 := congrArg (fun z => z[i]?) h; simp only [List.getElem?_map, hx, hkx] at h1; simp at h1; simp [h1] at hc30
 refine Qd fun K16 hK16 => Qc (Ps (Qe (hK16 _ _ _ (Qi (hret _ _ _ ?_)))))
 refine Ea results117 (.cons (Qh rfl) .nil) [] le_ ?_
 rw [decide_eq_false hne]; exact ⟨rfl, rfl⟩
 try simp only [dx] at hc30
 refine Qj (hK11 _ _ _ (Qc ?_))
 refine Pa (Qt rfl rfl om_) (Pm (Qe ?_))
 refine Xl (q' := QS _ _ _ _ _ _ _) rfl ?_
 refine QC (i + 1) (⟨by omega, Qd6 hal hx hkx (by simpa using hc30)⟩) (by omega) (eC rfl (eC rfl (eC rfl (eC rfl (eC rfl eN))))) rfl sb_
 try simp only [dx] at hc18
 refine QL (hK6 _ _ _ ?_)
 refine Ql eN ?_
 refine Qd fun K17 hK17 => Qc ?_
 obtain rfl : i = l.length := by (try simp at hc18); omega
 rw [List.take_length, List.take_of_length_le (by omega)] at hal
 refine Ps (Qe (hK17 _ _ _ (Qi (hret _ _ _ ?_))))
 refine Ea results117 (.cons (Qh rfl) .nil) [] le_ ?_
 rw [decide_eq_true hal]; exact ⟨rfl, rfl⟩
theorem Qbc {R : Hp} (l : List Nd) (q : Option Addr) (cap : Nat) (hl : RepL R l q cap) (ks : List Int) (v : Value) (hk : FrX QhQ R ks v) :
  QTri prog 104 [.slice q l.length cap, v] R [] (.bool (decide (l.map Nd.kind = ks))) := by
 have hvo := hk.one
 refine Tri.q2 ?_
 refine Qn func104 rfl ntmps104 rfl (fun σ F Q hret hend hpan => ?_)
 try simp only [cB]
 refine Qd fun K1 hK1 => Qc (Ps (Qe (hK1 _ _ _ (Qd fun K2 hK2 => Qc ?_))))
 refine Pm (Pm ?_)
 refine Pa (Ca call117 (Qkt l q cap hl ks v hk)) (Ps (Qe (hK2 _ _ _ (Qi (hret _ _ _ ?_)))))
 refine Ea results104 (.cons (Qh rfl) .nil) [] le_ ?_
 exact ⟨rfl, rfl⟩
theorem ZG {R : Hp} {n : Int} (h : QM n) : RepN R (Yi n.toNat) [.int .i64 0, .int .u64 n, .string (str []), .slice none 0 0] := by
 have := RepL.node (R := R) (k := 0) (n := n.toNat) (s := []) (by simp [big]) (RepL.nil R)
 rw [(Zu h).2] at this
 exact this
theorem Qgt {R : Hp} {s : Bs} (h : s.length ≤ big) : RepN R (Zh s) [.int .i64 1, .int .u64 0, .string (str s), .slice none 0 0] :=
 RepL.node (R := R) (k := 1) (n := 0) (s := s) h (RepL.nil R)
theorem QnT {R : Hp} {x y : Nd} {cx cy : List Value} (hx : RepN R x cx) (hy : RepN R y cy) : Kids R [x, y] [cx, cy] := ⟨rfl, fun i z cs h1 h2 => by
 match i with
 | 0 => cases h1; cases h2; exact hx
 | 1 => cases h1; cases h2; exact hy
 | i + 2 => simp at h1⟩
theorem QkY {R : Hp} {x y z : Nd} {cx cy cz : List Value} (hx : RepN R x cx) (hy : RepN R y cy) (hz : RepN R z cz) : Kids R [x, y, z] [cx, cy, cz] := ⟨rfl, fun i w cs h1 h2 => by
 match i with
 | 0 => cases h1; cases h2; exact hx
 | 1 => cases h1; cases h2; exact hy
 | 2 => cases h1; cases h2; exact hz
 | i + 3 => simp at h1⟩
theorem QkE {R : Hp} : QTri prog 123 [.slice none 0 0] R [] (.slice none 0 0) := by
 refine Tri.q2 ?_
 refine Qn func123 rfl ntmps123 rfl (fun σ F Q hret hend hpan => ?_)
 try simp only [cB]
 refine Qd fun K1 hK1 => Qc (Ps (Qe (hK1 _ _ _ (Qd fun K2 hK2 => Qd fun K3 hK3 => Qc ?_))))
 refine Pm ?_
 refine Pa ((Qa7 underlying148 rfl rfl)) (Qe (hK3 _ _ _ (Qv rfl (Qd fun K4 hK4 => Qc ?_))))
 refine Ps (Qe (hK4 _ _ _ (Qi (hret _ _ _ ?_))))
 refine Ea results123 (.cons (Qh rfl) .nil) [] le_ ?_
 exact ⟨rfl, rfl⟩
theorem Qna {R : Hp} : QTri prog 119 [.slice none 0 0] R [] (.agg ⟨[.int .i64 2, .int .u64 0, .string (str []), .slice none 0 0]⟩) := by
 refine Tri.q2 ?_
 refine Qn func119 rfl ntmps119 rfl (fun σ F Q hret hend hpan => ?_)
 try simp only [cB]
 refine Qd fun K1 hK1 => Qc ?_
 refine QA (wn0 rfl) rfl zeroValue150 rfl (fun b2 => ?_)
 refine Qe (hK1 _ _ _ (Qd fun K2 hK2 => Qc (Pm ?_)))
 refine Pa (Ca call123 (QkE)) ?_
 refine Pa (QV (cells := [_, _, _, _]) [(0, 1), (1, 1), (2, 1), (3, 1)] underlying150 zeroValue150 (fun _ => rfl) rfl rfl) ?_
 refine Qu Qw rfl (wn0 rfl) rfl rfl (by (first | (simp [Value.oneCell']; done) | (intro u hu; simp only [List.mem_cons, List.not_mem_nil, or_false] at hu; rcases hu with rfl | rfl | rfl | rfl <;> first | rfl | assumption))) fd_ (by (simp)) rfl ?_
 refine Qe (hK2 _ _ _ (Qi (hret _ _ _ ?_)))
 refine Ea results119 (.cons (QN Qw rfl fd_ rfl rfl) .nil) [] le_ ?_
 exact ⟨rfl, rfl⟩
theorem QbW {α β : Type} {f : α → β} {l : List α} {i : Nat} {x : α} (h : l[i]? = some x) : (l.take (i + 1)).map f = (l.take i).map f ++ [f x] := by
 rw [List.take_add_one, h]; simp
theorem QiZ {R : Hp} (l : List Ent) (v : Value) (hl : FrX entE R l v) (hb : ∀ e ∈ l, QM e.1 ∧ e.2.length ≤ 1000000) (hn : l.length ≤ 100000) : Tri prog 108 [v] R [] (fun r R' L' => (∃ cy, r = .agg ⟨cy⟩ ∧ RepN R' (Zm l) cy) ∧ L' = []) := by
 obtain ⟨q, cap, rfl, hcap, hcm⟩ := hl.shape
 refine Qn func108 rfl ntmps108 rfl (fun σ F Q hret hend hpan => ?_)
 try simp only [cB]
 refine Qd fun K1 hK1 => Qc ?_
 refine QA (wn0 rfl) rfl zeroValue150 rfl (fun b2 => ?_)
 refine Qe (hK1 _ _ _ (Qd fun K2 hK2 => Qc ?_))
 refine Pa (Ca call119 (Qna)) ?_
 refine QA (wn0 rfl) rfl zeroValue150 rfl (fun b3 => ?_)
 refine Qu Qw rfl (wn0 rfl) rfl rfl (by (first | (simp [Value.oneCell']; done) | (intro u hu; simp only [List.mem_cons, List.not_mem_nil, or_false] at hu; rcases hu with rfl | rfl | rfl | rfl <;> first | rfl | assumption))) fd_ (by (simp)) rfl ?_
 refine YR (A := slc 150 4 (.slice none 0 0) 0 ([] : List (List Value)).flatten) (Yr _ _) ?_
 refine Qe (hK2 _ _ _ (Qd fun K3 hK3 => Qd fun K4 hK4 => Qc (Pm ?_)))
 refine Pa (QR underlying76 rfl) (Pm (Qe (hK4 _ _ _ (Qp ?_))))
 refine Ql (E' := (fun (x1 : Nat × Value × Hp × List (List Value)) => [(2, .pointer (some ⟨b2, 0, none⟩)), (3, .pointer (some ⟨b3, 0, none⟩)), (7, .slice q l.length cap), (8, .int .i64 (l.length : Int)), (9, .int .i64 (x1.1 : Int))]) (0, .slice none 0 0, R, [])) (eC rfl (eC rfl (eC rfl (eC rfl (eC rfl eN))))) ?_
 refine Xi (M := (fun (x1 : Nat × Value × Hp × List (List Value)) => slc 150 4 x1.2.1 x1.2.2.2.length x1.2.2.2.flatten :: blk b3 [.int .i64 2, .int .u64 0, .string (str []), x1.2.1] 150 :: blk b2 [.int .i64 0, .int .u64 0, .string (str []), .slice none 0 0] 150 :: F) (0, .slice none 0 0, R, [])) sb_ ?_
 refine QY (fun (x1 : Nat × Value × Hp × List (List Value)) => [(2, .pointer (some ⟨b2, 0, none⟩)), (3, .pointer (some ⟨b3, 0, none⟩)), (7, .slice q l.length cap), (8, .int .i64 (l.length : Int)), (9, .int .i64 (x1.1 : Int))]) (fun (x1 : Nat × Value × Hp × List (List Value)) => x1.2.2.1) (fun (x1 : Nat × Value × Hp × List (List Value)) => slc 150 4 x1.2.1 x1.2.2.2.length x1.2.2.2.flatten :: blk b3 [.int .i64 2, .int .u64 0, .string (str []), x1.2.1] 150 :: blk b2 [.int .i64 0, .int .u64 0, .string (str []), .slice none 0 0] 150 :: F) (fun (x1 : Nat × Value × Hp × List (List Value)) => x1.1 ≤ l.length ∧ x1.2.1.oneCell' = true ∧ R.le x1.2.2.1 ∧ Kids x1.2.2.1 ((l.take x1.1).map YW) x1.2.2.2) (fun (x1 : Nat × Value × Hp × List (List Value)) => l.length - x1.1) (0, .slice none 0 0, R, []) (⟨by simp, rfl, Hp.le_refl _, rfl, fun i x cs h => by simp at h⟩) ?_
 rintro ⟨i, vl, R3, css⟩ ⟨hi, hvl, hR3, hk⟩
 try dsimp only
 dsimp only at hi hvl hR3 hk
 refine Qd fun K5 hK5 => Qc ?_
 refine Pa (QO rfl rfl) (Qe (hK5 _ _ _ (Qd fun K6 hK6 => ?_)))
 refine Qm rfl (fun hc10 => ?_) (fun hc10 => ?_)
 try simp only [dx] at hc10
 refine Qj (hK6 _ _ _ (Qd fun K8 hK8 => Qp (Qd fun K9 hK9 => Qc ?_)))
 have hi2 : i < l.length := by (try simp at hc10); omega
 obtain ⟨e, hx⟩ : ∃ x, l[i]? = some x := ⟨_, List.getElem?_eq_getElem hi2⟩
 obtain ⟨be, oe, ce, cse, hee, rfl, _, hcell⟩ := (hl.mono hR3).at hx
 obtain ⟨rfl, rfl⟩ : q = some ⟨be, oe, none⟩ ∧ cap = ce := by cases hee; exact ⟨rfl, rfl⟩
 obtain ⟨hb1, hb2⟩ := hb e (List.mem_of_getElem? hx)
 have hcssl : css.length = i := by have := hk.1; simp at this; omega
 refine Pa (Qy underlying76 sizeOf93 rfl rfl om_) ?_
 refine Pa ((XT m93 (vs := Yu e) rfl rfl (fun j u hj => hcell j u hj))) ?_
 refine QA (wn0 rfl) rfl zeroValue93 rfl (fun b5 => ?_)
 refine Sm (vs := Yu e) m93 (entE.one (R := R3) (x := e) rfl) ?_
 refine Qe (hK9 _ _ _ ?_)
 refine Xd (L := [blk b5 (Yu e) 93, blk b3 [.int .i64 2, .int .u64 0, .string (str []), vl] 150]) [0, 1, 2, 3, 4, 5, 6, 7] [8, 9, 10] [11, 12, 13] _ sb_ (by kernel_rfl) (by kernel_rfl) (by kernel_rfl) rfl ?_
 refine Wa rfl (fun R1 hR1 G => (Ga underlying150 sizeOf148)) ?_
 refine Wa rfl (fun R1 hR1 G => (La Ys)) ?_
 refine Wa rfl (fun R1 hR1 G => (Ga underlying93 sizeOf36)) ?_
 refine Wa rfl (fun R1 hR1 G => (La o36)) ?_
 refine Wa rfl (fun R1 hR1 G => (Ca call95 (ZO _))) ?_
 refine Wa rfl (fun R1 hR1 G => (Ga underlying93 sizeOf9)) ?_
 refine Wa rfl (fun R1 hR1 G => (La o9)) ?_
 refine Wa rfl (fun R1 hR1 G => (Ca call114 (Qe1 _))) ?_
 refine Xc ?_
 refine QH rfl ?_
 try simp only [cC]
 refine Qz (sz := 4) (wn0 rfl) rfl underlying148 sizeOf150 zeroValue150 rfl rfl rfl (by decide) (by decide) (fun b21 => ?_)
 refine QI le_ sb_ ?_
 refine QH rfl ?_
 try simp only [cC]
 refine Ra call119 (QkW (.slice (some ⟨b21, 0, none⟩) 2 2) [Yi e.1.toNat, Zh e.2] [[.int .i64 0, .int .u64 e.1, .string (str []), .slice none 0 0], [.int .i64 1, .int .u64 0, .string (str e.2), .slice none 0 0]] (QnT (ZG hb1) (Qgt (by unfold big; omega))) (by simp)) ?_
 rintro r R4 L' hR4 ⟨⟨cy, rfl, hrep⟩, rfl⟩
 obtain ⟨k0, n0, s0, l0, q0, cap0, _, rfl, _, _⟩ := hrep.inv
 replace hrep : RepN R4 (YW e) _ := hrep
 try simp only [cB]
 refine QI le_ sb_ ?_
 refine QH rfl ?_
 try simp only [cC]
 refine Qz (sz := 4) (wn0 rfl) rfl underlying148 sizeOf150 zeroValue150 rfl rfl rfl (by decide) (by decide) (fun b23 => ?_)
 refine QI le_ sb_ ?_
 refine Xe ?_
 try simp only [cC]
 refine XF (sz := 4) (by_ := 56) ⟨underlying148, _, _, rfl, rfl, rfl, rfl, rfl⟩ (wn0 rfl) rfl rfl rfl fd_ (YT (xs := [.int .i64 k0, .int .u64 n0, .string (str s0), .slice q0 l0.length cap0]) underlying148 fd_ (ZU hrep)) rfl om_ (by simp only [maxLen]; omega) (fun v24 ho24 hh24 => ?_)
 rw [Qa0, show css.length + 1 = (css ++ [[Value.int .i64 k0, .int .u64 n0, .string (str s0), .slice q0 l0.length cap0]]).length by simp]
 refine Pa (Ga underlying150 sizeOf148) ?_
 refine Sa Ys ?_
 refine Qe (hK8 _ _ _ (Qc ?_))
 refine Pa (Qt rfl rfl om_) (Pm (Qe ?_))
 refine Xl (q' := QS _ _ _ _ _ _ _) rfl ?_
 refine QC ((i + 1, v24, R4, css ++ [[.int .i64 k0, .int .u64 n0, .string (str s0), .slice q0 l0.length cap0]])) (⟨by dsimp only; omega, by assumption, Hp.le_trans hR3 hR4, by dsimp only; rw [QbW hx]; exact (hk.mono hR4).snoc hrep⟩) (by dsimp only; omega) (eC rfl (eC rfl (eC rfl (eC rfl (eC rfl eN))))) rfl sb_
 try simp only [dx] at hc10
 refine QL (hK3 _ _ _ ?_)
 refine Ql (eL 2 rfl (eL 3 rfl eN)) ?_
 refine Qd fun K10 hK10 => Qc ?_
 obtain rfl : i = l.length := by (try simp at hc10); omega
 rw [List.take_length] at hk
 refine Yd (e := 150) (sz := 4) (n := css.length) (xs := css.flatten) fd_ (fun R4 hR4 hfr4 hxl4 => ?_)
 have hln : css.length = (l.map YW).length := hk.1
 rw [hln] at hfr4
 obtain ⟨q2, cap2, rfl, hrl⟩ := (hk.mono hR4).repL hfr4 (by unfold big; simp; omega)
 have hnode := hrl.node (k := 2) (n := 0) (s := []) (by simp [big])
 refine Pa ((Lm (vs := [.int .i64 2, .int .u64 0, .string (str []), .slice q2 (l.map YW).length cap2]) Qw)) ?_
 refine Sm (vs := [.int .i64 2, .int .u64 0, .string (str []), .slice q2 (l.map YW).length cap2]) Qw (ZU hnode) ?_
 refine Qe (hK10 _ _ _ (Qi (hret _ _ _ ?_)))
 refine Ea results108 (.cons (QN Qw rfl fd_ rfl rfl) .nil) [] (by exact Hp.le_trans hR3 hR4) ?_
 exact ⟨⟨_, rfl, hnode⟩, rfl⟩
theorem Qjl (n : Nat) (h : n ≤ 16777216) (x : Int) (hx : x = (n : Int)) : IntKind.u8.wrap (x.fdiv (2 ^ min (24 : Int).toNat IntKind.i64.bits)) = ((UInt8.ofNat (n / 16777216 % 256)).toNat : Int) ∧
  IntKind.u8.wrap (x.fdiv (2 ^ min (16 : Int).toNat IntKind.i64.bits)) = ((UInt8.ofNat (n / 65536 % 256)).toNat : Int) ∧
  IntKind.u8.wrap (x.fdiv (2 ^ min (8 : Int).toNat IntKind.i64.bits)) = ((UInt8.ofNat (n / 256 % 256)).toNat : Int) ∧ IntKind.u8.wrap x = ((UInt8.ofNat (n % 256)).toNat : Int) := by
 subst hx
 refine ⟨?_, ?_, ?_, jP n⟩
 ·rw [qp n 24 24 rfl (by decide), jP]
 ·rw [qp n 16 16 rfl (by decide), jP]
 ·rw [qp n 8 8 rfl (by decide), jP]
theorem QeU {R : Hp} (v : Value) (ks : List Nd) (css : List (List Value)) (hk : Kids R ks css) (hn : ks.length ≤ 1000000) (hok : OkN (.mk 2 0 [] ks)) (hw : Yk (.mk 2 0 [] ks) = (wr (.mk 2 0 [] ks), true)) (hl : (wr (.mk 2 0 [] ks)).length ≤ 16777216) :
  Tri prog 111 [v] R [slc 150 4 v ks.length css.flatten] (fun r R' L' => r = QF [.string (str (be4 (wr (.mk 2 0 [] ks)).length ++ wr (.mk 2 0 [] ks))), .bool true] ∧ L' = []) := by
 obtain ⟨s, hs⟩ : ∃ s, s = wr (.mk 2 0 [] ks) := ⟨_, rfl⟩
 obtain ⟨g1, g2, g3, g4⟩ := Qjl s.length (by rw [hs]; exact hl) s.length rfl
 rw [← hs] at hl hw ⊢
 refine Qn func111 rfl ntmps111 rfl (fun σ F Q hret hend hpan => ?_)
 try simp only [cB]
 refine Qd fun K1 hK1 => Qc (Ps (Ps (Qe (hK1 _ _ _ (Qd fun K2 hK2 => Qc ?_)))))
 refine Pm ?_
 refine Ra call119 (QkW v ks css hk hn) ?_
 rintro r R2 L' hR2 ⟨⟨cy, rfl, hrep⟩, rfl⟩
 try simp only [cB]
 refine Pa (Ca call122 ((Qk7 _ cy hrep hok))) ?_
 refine Xg 10 rfl (v' := .tuple #[.string (str s), .bool true]) (by rw [hw]) ?_
 refine Pm ?_
 refine Pa (Qq rfl rfl) ?_
 refine Pa (Qq rfl rfl) (Ps (Ps (Qe (hK2 _ _ _ (Qd fun K3 hK3 => Qc ?_)))))
 refine Pm ?_
 refine Pa (Yv underlying9 rfl) (Ps (Qe (hK3 _ _ _ (Qd fun K4 hK4 => Qc ?_))))
 refine Pm ?_
 refine Pa ((yR rfl rfl (by decide))) ?_
 refine Pa ((Yld.to (qW underlying3 underlying5 rfl) (congrArg (Value.int .u8) g1))) (Pm ?_)
 refine Pa ((yR rfl rfl (by decide))) ?_
 refine Pa ((Yld.to (qW underlying3 underlying5 rfl) (congrArg (Value.int .u8) g2))) (Pm ?_)
 refine Pa ((yR rfl rfl (by decide))) ?_
 refine Pa ((Yld.to (qW underlying3 underlying5 rfl) (congrArg (Value.int .u8) g3))) (Pm ?_)
 refine Pa ((Yld.to (qW underlying3 underlying5 rfl) (congrArg (Value.int .u8) g4))) ?_
 refine Qz (sz := 1) (wn0 rfl) rfl underlying123 sizeOf5 zeroValue5 rfl rfl rfl (by decide) (by decide) (fun b26 => ?_)
 refine Xu (A := slc 5 1 (.slice (some ⟨b26, 0, none⟩) 4 4) 4 _) (B := slc 5 1 (.slice (some ⟨b26, 0, none⟩) 4 4) (be4 s.length).length (Xy (be4 s.length))) fd_ (fun h hh => hh) ?_
 refine Pa (qN underlying123 underlying5 underlying9 rfl fd_) (Pm ?_)
 refine Pa ((qx rfl rfl (by rw [Yy]; omega))) ?_
 refine Pm (Ps (Ps (Qe (hK4 _ _ _ ?_))))
 refine Ql (eL 2 rfl (eL 3 rfl eN)) ?_
 refine Qi (hret _ _ _ ?_)
 apply XL results111 (.cons (Qh rfl) (.cons (Qh rfl) .nil)) _ [] hR2 rfl
 case hp => exact ⟨rfl, rfl⟩
 case hS => exact sb_
def DK.put (D : DK) (s : Bs) : Int × DK := if (D.append s).1 = 0 then (D.append s).2.sync else D.append s
theorem DK.append_ok {D : DK} {m : Nat} (h : D.ok m) (s : Bs) : (D.append s).2.ok (m + s.length) := by
 have h1 := DK.step_ok h
 unfold DK.append
 split
 ·obtain ⟨a, b, c⟩ := h1
  exact ⟨by simp; omega, by simp; omega, c⟩
 ·obtain ⟨a, b, c⟩ := h1
  exact ⟨a, Nat.le_trans b (by omega), c⟩
theorem DK.sync_ok {D : DK} {m : Nat} (h : D.ok m) : D.sync.2.ok m := by
 have h1 := DK.step_ok h
 unfold DK.sync
 split
 ·obtain ⟨a, b, c⟩ := h1
  exact ⟨Nat.le_refl _, b, c⟩
 ·exact h1
theorem DK.put_ok {D : DK} {m : Nat} (h : D.ok m) (s : Bs) : (D.put s).2.ok (m + s.length) := by
 unfold DK.put
 split
 ·exact DK.sync_ok (DK.append_ok h s)
 ·exact DK.append_ok h s
theorem QdK {R : Hp} (b bd : Nat) (v u : Value) (g : LG) (D : DK) (m : Nat) (r : Rec) (vk : Value) (css : List (List Value)) (hk : Kids R r.kids css) (hg : g.ok) (hr : r.may g) (hl : (wr r.nd).length ≤ 16777216) (hD : D.ok m) (hm : m ≤ 900000000) :
  Tri prog 94 [.pointer (some ⟨b, 0, none⟩), vk] R [lgB b (some ⟨bd, 0, none⟩) v g, dkB bd u D, dkS u D, slc 150 4 vk r.kids.length css.flatten]
   (fun x R' L' => x = .int .i64 (D.put r.bytes).1 ∧ ∃ u', L' = [lgB b (some ⟨bd, 0, none⟩) v { g with down := g.down || !decide ((D.put r.bytes).1 = 0) }, dkB bd u' (D.put r.bytes).2, dkS u' (D.put r.bytes).2]) := by
 have hbl : r.bytes.length ≤ 16777220 := by unfold Rec.bytes; simp [Yy]; omega
 have hap := DK.append_ok hD r.bytes
 have hkl : r.kids.length ≤ 1000000 := by cases r <;> simp [Rec.kids]
 unfold lgB lgC
 refine Qn func94 rfl ntmps94 rfl (fun σ F Q hret hend hpan => ?_)
 try simp only [cB]
 refine Qd fun K1 hK1 => Qc (Ps (Qe (hK1 _ _ _ (Qd fun K2 hK2 => Qc ?_))))
 refine Pm ?_
 refine Ra call111 (QeU vk r.kids css hk hkl (Rec.okN hr hg) (Rec.write r hl) hl) ?_
 rintro x R2 L' hR2 ⟨rfl, rfl⟩
 rw [show be4 (wr (Nd.mk 2 0 [] r.kids)).length ++ wr (Nd.mk 2 0 [] r.kids) = r.bytes from rfl]
 try simp only [cB]
 refine Pm ?_
 refine Pa (Qq rfl rfl) ?_
 refine Pa (Qq rfl rfl) (Ps (Ps (Qe (hK2 _ _ _ (Qd fun K3 hK3 => Qd fun K4 hK4 => Qc ?_)))))
 refine Pm ?_
 refine Pa (Yq rfl) (Qe (hK4 _ _ _ (Qs rfl (Qj (hK3 _ _ _ (Qd fun K5 hK5 => Qc ?_))))))
 refine Pm ?_
 refine Pa (Qf rfl) ?_
 refine Pa (Ga underlying111 sizeOf83) ?_
 refine Pa (La o83) (Pm ?_)
 refine Ra call112 (QkI bd u D m hD r.bytes (by omega)) ?_
 rintro x R3 L' hR3 ⟨rfl, rfl, u2, rfl⟩
 try simp only [cB]
 refine Ps (Qe (hK5 _ _ _ (Qd fun K6 hK6 => ?_)))
 have hJ7 : ∀ (x : Value × Int × DK), D.put r.bytes = x.2 → EJ ⟨prog, 40, σ⟩ K6 [(0, .pointer (some ⟨b, 0, none⟩)), (7, .int .i64 x.2.1)] R2 (blk b [.pointer (some ⟨bd, 0, none⟩), .bool g.down, .int .u64 g.term, .int .i64 g.vote, .int .u64 g.base, .int .u64 g.baseT, .string (str g.state), v] 111 :: dkB bd x.1 x.2.2 :: dkS x.1 x.2.2 :: F) := by
  rintro ⟨u4, e4, D4⟩ hput
  try dsimp only
  dsimp only at hput
  refine hK6 _ _ _ (Qd fun K7 hK7 => Qc (Pm (Pm ?_)))
  refine Pa (Qf rfl) ?_
  refine Pa (Ga underlying111 sizeOf4) ?_
  refine Pa (La o4) (Pm ?_)
  refine QE 33 rfl (fun hg33 => ?_) (fun hg33 => ?_)
  have hgd : g.down = true := hg33
  refine Pk (Pk ?_)
  refine Pa (Qr rfl rfl) ?_
  refine Xg 36 rfl (v' := .bool (g.down || !decide (e4 = 0))) (by simp [hgd]) ?_
  refine Pa (Qf rfl) ?_
  refine Pa (Ga underlying111 sizeOf4) ?_
  refine Sa o4 ?_
  refine Qe (hK7 _ _ _ ?_)
  refine Ql (eL 7 rfl eN) ?_
  refine Qd fun K8 hK8 => Qc (Pm (Ps (Qe (hK8 _ _ _ (Qi (hret _ _ _ ?_))))))
  apply XL results94 (.cons (Qh rfl) .nil) _ [lgB b (some ⟨bd, 0, none⟩) v { g with down := or g.down (!decide (e4 = 0)) }, dkB bd u4 D4, dkS u4 D4] hR2 rfl
  case hp => rw [hput]; exact ⟨rfl, u4, rfl⟩
  case hS => exact sb_
  have hgd : g.down = false := by simpa using hg33
  refine Pb (Qg rfl) ?_
  refine Pb (XU rfl rfl) ?_
  refine Pa (Qo rfl rfl) ?_
  refine Xg 36 rfl (v' := .bool (g.down || !decide (e4 = 0))) (by simp [hgd]) ?_
  refine Pa (Qf rfl) ?_
  refine Pa (Ga underlying111 sizeOf4) ?_
  refine Sa o4 ?_
  refine Qe (hK7 _ _ _ (Qd fun K9 hK9 => Qc (Pm (Ps (Qe (hK9 _ _ _ (Qi (hret _ _ _ ?_))))))))
  apply XL results94 (.cons (Qh rfl) .nil) _ [lgB b (some ⟨bd, 0, none⟩) v { g with down := or g.down (!decide (e4 = 0)) }, dkB bd u4 D4, dkS u4 D4] hR2 rfl
  case hp => rw [hput]; exact ⟨rfl, u4, rfl⟩
  case hS => exact sb_
 refine Qd fun K10 hK10 => Qc (Pm ?_)
 refine Pa (QB rfl rfl) (Qe (hK10 _ _ _ ?_))
 refine Qm rfl (fun hc22 => ?_) (fun hc22 => ?_)
 have f1 : (D.append r.bytes).1 = 0 := by simpa using hc22
 have f2 : D.put r.bytes = (D.append r.bytes).2.sync := by unfold DK.put; rw [if_pos f1]
 refine Qc (Pm ?_)
 refine Pa (Qf rfl) ?_
 refine Pa (Ga underlying111 sizeOf83) ?_
 refine Pa (La o83) ?_
 refine Ra call113 (QmM bd u2 (D.append r.bytes).2 _ hap) ?_
 rintro x R4 L' hR4 ⟨rfl, rfl, u3, rfl⟩
 try simp only [cB]
 refine Ps (Qe ?_)
 refine QG hJ7 ((u3, (D.append r.bytes).2.sync.1, (D.append r.bytes).2.sync.2)) (f2) (eC rfl (eC rfl eN)) rfl sb_
 have f1 : ¬ (D.append r.bytes).1 = 0 := by simpa using hc22
 have f2 : D.put r.bytes = D.append r.bytes := by unfold DK.put; rw [if_neg f1]
 refine Qj ?_
 refine QG hJ7 ((u2, (D.append r.bytes).1, (D.append r.bytes).2)) (f2) (eC rfl (eC rfl eN)) rfl sb_
def LG.setTermD (g : LG) (D : DK) (t v : Int) : Int × LG × DK :=
 if (g.down || D.down) = true then (3, g, D) else if t < g.term ∨ v < -1 then (1, g, D)
 else if (D.put (Rec.term t v).bytes).1 = 0 then (0, { g with term := t, vote := v }, (D.put (Rec.term t v).bytes).2) else ((D.put (Rec.term t v).bytes).1, { g with down := true }, (D.put (Rec.term t v).bytes).2)
def LG.addD (g : LG) (D : DK) (b : Int) (m : List Ent) : Int × LG × DK :=
 if (g.down || D.down) = true then (3, g, D) else if b < g.base ∨ b > g.last then (1, g, D)
 else if (D.put (Rec.add b m).bytes).1 = 0 then (0, g.play (.add b m), (D.put (Rec.add b m).bytes).2) else ((D.put (Rec.add b m).bytes).1, { g with down := true }, (D.put (Rec.add b m).bytes).2)
theorem je {R : Hp} (b bd : Nat) (va u : Value) (g : LG) (D : DK) (m : Nat) (t vt : Int) (hg : g.ok) (ht : QM t) (hv : vt < 9223372036854775807) (hv2 : -9223372036854775808 ≤ vt) (hvo : va.oneCell' = true) (hD : D.ok m) (hm : m ≤ 900000000) :
  Tri prog 75 [.pointer (some ⟨b, 0, none⟩), .int .u64 t, .int .i64 vt] R [lgB b (some ⟨bd, 0, none⟩) va g, dkB bd u D, dkS u D]
   (fun x R' L' => x = .int .i64 (g.setTermD D t vt).1 ∧ ∃ u', L' = [lgB b (some ⟨bd, 0, none⟩) va (g.setTermD D t vt).2.1, dkB bd u' (g.setTermD D t vt).2.2, dkS u' (g.setTermD D t vt).2.2]) := by
 have hdq := yv (R := R) b bd va u g D
 refine Qn func75 rfl ntmps75 rfl (fun σ F Q hret hend hpan => ?_)
 try simp only [cB]
 unfold lgB lgC at hdq ⊢
 refine Qd fun K1 hK1 => Qc (Ps (Qe (hK1 _ _ _ (Qd fun K2 hK2 => Qp (Qd fun K3 hK3 => Qc ?_)))))
 refine Pm ?_
 refine Pa (Ca call59 (hdq)) (Ps (Qe (hK3 _ _ _ ?_)))
 refine Qm rfl (fun hc8 => ?_) (fun hc8 => ?_)
 have f0 : (g.down || D.down) = true := hc8
 refine Qd fun K5 hK5 => Qc (Ps (Qe (hK5 _ _ _ (Qi (hret _ _ _ ?_)))))
 refine Ea results75 (.cons (Qh rfl) .nil) [lgB b (some ⟨bd, 0, none⟩) va g, dkB bd u D, dkS u D] (by first | exact Hp.le_refl _ | exact hR2) ?_
 rw [show g.setTermD D t vt = (3, g, D) by unfold LG.setTermD; rw [if_pos f0]]; exact ⟨rfl, u, rfl⟩
 have f0 : ¬ (g.down || D.down) = true := by simpa using hc8
 refine Qd fun K6 hK6 => Qc (Pm (Pm ?_))
 refine Pa (Qf rfl) ?_
 refine Pa (Ga underlying111 sizeOf36) ?_
 refine Pa (La o36) ?_
 refine Pa (QO rfl rfl) (Pm ?_)
 refine QE 18 rfl (fun hg18 => ?_) (fun hg18 => ?_)
 have f1 : t < g.term ∨ vt < -1 := .inl (by simpa using hg18)
 refine Pk (Pk ?_)
 refine Pa (Qr rfl rfl) (Ps (Qe (hK6 _ _ _ (Qv rfl (Qd fun K7 hK7 => Qc ?_)))))
 refine Ps (Qe (hK7 _ _ _ (Qi (hret _ _ _ ?_))))
 refine Ea results75 (.cons (Qh rfl) .nil) [lgB b (some ⟨bd, 0, none⟩) va g, dkB bd u D, dkS u D] (by first | exact Hp.le_refl _ | exact hR2) ?_
 rw [show g.setTermD D t vt = (1, g, D) by unfold LG.setTermD; rw [if_neg f0, if_pos f1]]; exact ⟨rfl, u, rfl⟩
 have f10 : ¬ t < g.term := by simpa using hg18
 refine Pb (Qg rfl) ?_
 refine Pb (QO rfl rfl) ?_
 refine Pa (Qo rfl rfl) (Ps (Qe (hK6 _ _ _ ?_)))
 refine Ql (eL 0 rfl (eL 1 rfl (eL 2 rfl (eL 11 rfl eN)))) ?_
 refine Qm rfl (fun hc11 => ?_) (fun hc11 => ?_)
 first | have f1 : t < g.term ∨ vt < -1 := .inr (by simpa using hc11) | skip
 refine Qd fun K9 hK9 => Qc (Ps (Qe (hK9 _ _ _ (Qi (hret _ _ _ ?_)))))
 refine Ea results75 (.cons (Qh rfl) .nil) [lgB b (some ⟨bd, 0, none⟩) va g, dkB bd u D, dkS u D] (by first | exact Hp.le_refl _ | exact hR2) ?_
 rw [show g.setTermD D t vt = (1, g, D) by unfold LG.setTermD; rw [if_neg f0, if_pos f1]]; exact ⟨rfl, u, rfl⟩
 have f1 : ¬ (t < g.term ∨ vt < -1) := by (try simp at hc11); omega
 refine Qj (hK2 _ _ _ (Qd fun K10 hK10 => Qd fun K11 hK11 => Qc ?_))
 have hvb : -1 ≤ vt ∧ vt < 9223372036854775807 := by omega
 have hmay : (Rec.term t vt).may g := ⟨ht, hvb.1, hvb.2⟩
 have hv1 : QM (vt + 1) := by unfold QM; omega
 have hu0 : QM 0 := by unfold QM; omega
 refine Pm ?_
 refine Pa (Ca call95 (ZO _)) (Pm ?_)
 refine Pa (Ca call95 (ZO _)) (Pm ?_)
 refine Pa ((Qt rfl rfl (by omega))) ?_
 refine Pa ((Xp underlying3 underlying36 rfl (by (simp only [IntKind.min, IntKind.max, IntKind.signed, IntKind.bits, Bool.false_eq_true, ite_false, ite_true]; omega)))) ?_
 refine Pa (Ca call95 (ZO _)) ?_
 refine Qz (sz := 4) (wn0 rfl) rfl underlying148 sizeOf150 zeroValue150 rfl rfl rfl (by decide) (by decide) (fun bk => ?_)
 refine Ra call94 (QdK b bd va u g D m (Rec.term t vt) (.slice (some ⟨bk, 0, none⟩) 3 3) [[.int .i64 0, .int .u64 0, .string (str []), .slice none 0 0], [.int .i64 0, .int .u64 t, .string (str []), .slice none 0 0], [.int .i64 0, .int .u64 (vt + 1), .string (str []), .slice none 0 0]] (QkY (ZG hu0) (ZG ht) (ZG hv1)) hg hmay (Nat.le_trans (Rec.len_term ht hvb) (by decide)) hD hm) ?_
 rintro x R2 L' hR2 ⟨rfl, u2, rfl⟩
 unfold lgB lgC
 try simp only [cB]
 refine Ps (Qe (hK11 _ _ _ (Qd fun K12 hK12 => Qc ?_)))
 refine Pm ?_
 refine Pa (XU rfl rfl) (Qe (hK12 _ _ _ ?_))
 refine Qm rfl (fun hc33 => ?_) (fun hc33 => ?_)
 have f2 : ¬ (D.put (Rec.term t vt).bytes).1 = 0 := by simpa using hc33
 refine Qd fun K14 hK14 => Qc (Pm (Ps (Qe (hK14 _ _ _ (Qi (hret _ _ _ ?_))))))
 refine Ea results75 (.cons (Qh rfl) .nil) [lgB b (some ⟨bd, 0, none⟩) va { g with down := or g.down (!decide ((D.put (Rec.term t vt).bytes).1 = 0)) }, dkB bd u2 (D.put (Rec.term t vt).bytes).2, dkS u2 (D.put (Rec.term t vt).bytes).2] (by first | exact Hp.le_refl _ | exact hR2) ?_
 rw [show g.setTermD D t vt = ((D.put (Rec.term t vt).bytes).1, { g with down := true }, (D.put (Rec.term t vt).bytes).2) by unfold LG.setTermD; rw [if_neg f0, if_neg f1, if_neg f2]]; refine ⟨rfl, u2, ?_⟩; simp [f2]
 have f2 : (D.put (Rec.term t vt).bytes).1 = 0 := by simpa using hc33
 refine Qj (hK10 _ _ _ (Qd fun K15 hK15 => Qc (Pm (Pm (Pm (Pm ?_))))))
 refine Pa (Qf rfl) ?_
 refine Pa (Ga underlying111 sizeOf36) ?_
 refine Sa o36 ?_
 refine Pa (Qf rfl) ?_
 refine Pa (Ga underlying111 sizeOf3) ?_
 refine Sa o3 ?_
 refine Qe (hK15 _ _ _ ?_)
 refine Ql eN ?_
 refine Qd fun K16 hK16 => Qc (Ps (Qe (hK16 _ _ _ (Qi (hret _ _ _ ?_)))))
 refine Ea results75 (.cons (Qh rfl) .nil) [lgB b (some ⟨bd, 0, none⟩) va { g with term := t, vote := vt, down := or g.down (!decide ((D.put (Rec.term t vt).bytes).1 = 0)) }, dkB bd u2 (D.put (Rec.term t vt).bytes).2, dkS u2 (D.put (Rec.term t vt).bytes).2] (by first | exact Hp.le_refl _ | exact hR2) ?_
 rw [show g.setTermD D t vt = (0, { g with term := t, vote := vt }, (D.put (Rec.term t vt).bytes).2) by unfold LG.setTermD; rw [if_neg f0, if_neg f1, if_pos f2]]; refine ⟨rfl, u2, ?_⟩; simp [f2]
theorem FrX.sub {α : Type} {T : Elt α} {R : Hp} {l : List α} {q : Option Addr} {cap : Nat} (h : FrX T R l (.slice q l.length cap)) {a b : Nat} (hab : a ≤ b) (hb : b ≤ l.length) : FrX T R ((l.drop a).take (b - a)) (.slice (Yw q a cap T.sz) (b - a) (cap - a)) := by
 obtain ⟨css, hE, q', cap', e, h1, h2, h3⟩ := h
 cases e
 have hlen : ((l.drop a).take (b - a)).length = b - a := by simp; omega
 refine ⟨(css.drop a).take (b - a), (hE.drop a).take (b - a), Yw q a cap T.sz, cap - a, by rw [hlen], by rw [hlen]; omega, by omega, ?_⟩
 rw [hlen]
 rcases Nat.eq_zero_or_pos (b - a) with h0 | h0
 ·exact .inl h0
 ·rcases h3 with h3 | ⟨b0, off, rfl, hc⟩
  ·omega
  ·refine .inr ⟨b0, off + a * T.sz, by unfold Yw; rw [if_neg (by omega)]; simp [Yo], fun j u hj => ?_⟩
   rw [← QhU (n := T.sz) _ (fun c hc => hE.len c (List.mem_of_mem_drop hc)), ← QhW (n := T.sz) _ hE.len, List.getElem?_take] at hj
   split at hj
   ·rw [List.getElem?_drop] at hj
    rw [Nat.add_assoc]; exact hc _ u hj
   ·cases hj
def Yt (l : List Ent) : List Value := (l.map Yu).flatten
theorem Qku {R : Hp} {l : List Ent} {css : List (List Value)} (h : Els entE R l css) : css = l.map Yu := by
 apply List.ext_getElem?
 intro i
 rw [List.getElem?_map]
 by_cases hi : i < l.length
 ·have h1 : l[i]? = some l[i] := List.getElem?_eq_getElem hi
  have h2 : css[i]? = some (css[i]'(by rw [h.1]; exact hi)) := List.getElem?_eq_getElem (by rw [h.1]; exact hi)
  have := h.2 i _ _ h1 h2
  rw [h1, h2]; simpa [entE] using this
 ·rw [List.getElem?_eq_none (by rw [h.1]; omega), List.getElem?_eq_none (by omega)]; rfl
theorem Qdj {R : Hp} (l : List Ent) : Els entE R l (l.map Yu) := ⟨by simp, fun i x cs h1 h2 => by rw [List.getElem?_map, h1] at h2; simpa [entE] using h2.symm⟩
theorem Qa4 {R : Hp} {l : List Ent} {v : Value} (h : FrozenS R v l.length (Yt l)) : FrX entE R l v := FrozenS.frx h (Qdj l)
theorem Qje (l m : List Ent) : Yt l ++ Yt m = Yt (l ++ m) := by simp [Yt]
theorem FrX.ents {R : Hp} {l : List Ent} {v : Value} (h : FrX entE R l v) : FrS R v l.length (l.map Yu).flatten := by
 obtain ⟨css, h1, h2⟩ := h
 rw [Qku h1] at h2
 exact h2
theorem Qfw {R : Hp} (l : List Ent) (v : Value) (hl : FrX entE R l v) (hn : l.length ≤ 1000000) : Tri prog 101 [v] R [] (fun r R' L' => R = R' ∧ r.oneCell' = true ∧ L' = [slc 93 2 r l.length (Yt l)]) := by
 have hfs := hl.ents
 obtain ⟨q, cap, rfl, h1, h2, h3⟩ := hfs
 have hfs := hl.ents
 refine Qn func101 rfl ntmps101 rfl (fun σ F Q hret hend hpan => ?_)
 try simp only [cB]
 refine Qd fun K1 hK1 => Qc (Ps (Qe (hK1 _ _ _ (Qd fun K2 hK2 => Qd fun K3 hK3 => Qc ?_))))
 refine Pm ?_
 refine Pa ((Qa7 underlying76 rfl rfl)) (Qe (hK3 _ _ _ ?_))
 refine Qm rfl (fun hc4 => ?_) (fun hc4 => ?_)
 obtain rfl : q = none := by simpa using hc4
 obtain rfl : l = [] := by rcases h3 with h | ⟨b, off, h, _⟩; exact List.eq_nil_of_length_eq_zero h; cases h
 refine Qd fun K5 hK5 => Qc ?_
 refine YR (A := slc 93 2 (.slice none 0 0) 0 []) (Yr _ _) ?_
 refine Ps (Qe (hK5 _ _ _ (Qi (hret _ _ _ ?_))))
 refine Ea results101 (.cons (Qh rfl) .nil) [slc 93 2 (.slice none 0 0) 0 []] le_ ?_
 exact ⟨rfl, rfl, rfl⟩
 try simp only [dx] at hc4
 refine Qj (hK2 _ _ _ (Qd fun K6 hK6 => Qc ?_))
 refine Qz (sz := 2) (wn0 rfl) rfl underlying76 sizeOf93 zeroValue93 rfl rfl rfl (by decide) (by decide) (fun b5 => ?_)
 refine Pm ?_
 refine XF (sz := 2) (by_ := 24) ⟨underlying76, _, _, rfl, rfl, rfl, rfl, rfl⟩ (wn0 rfl) rfl rfl rfl fd_ ((FrX.src (T := entE) underlying76 (Qdj l) hfs)) rfl om_ (by simp only [maxLen]; omega) (fun v7 ho7 hh7 => ?_)
 rw [Nat.zero_add, List.nil_append]
 refine Ps (Qe (hK6 _ _ _ (Qi (hret _ _ _ ?_))))
 refine Ea results101 (.cons (Qh rfl) .nil) [slc 93 2 v7 l.length (Yt l)] le_ ?_
 exact ⟨rfl, by assumption, rfl⟩
theorem Qfd {R : Hp} (b : Nat) (d : Option Addr) (va vm : Value) (g : LG) (i : Int) (m : List Ent) (hg : g.ok) (hi : g.base ≤ i ∧ i ≤ g.last) (hva : FrX entE R g.all va) (hvm : FrX entE R m vm) (hm : m.length ≤ 1000000) :
  Tri prog 106 [.pointer (some ⟨b, 0, none⟩), .int .u64 i, vm] R [lgB b d va g]
   (fun x R' L' => ∃ va', FrX entE R' (g.play (.add i m)).all va' ∧ L' = [lgB b d va' (g.play (.add i m))]) := by
 obtain ⟨q, cap, rfl, hq1, hq2⟩ := hva.shape
 have hvs := hvm.ents
 obtain ⟨qm, capm, rfl, _, _⟩ := hvm.shape
 have hb := hg.base
 have hn := hg.alln
 have hle : g.last = g.base + g.all.length := rfl
 obtain ⟨k, hk⟩ : ∃ k : Nat, i - g.base = k := ⟨(i - g.base).toNat, by omega⟩
 have hsub := hva.sub (a := 0) (b := k) (by omega) (by omega)
 rw [List.drop_zero, Nat.sub_zero] at hsub
 have hkl : (g.all.take k).length ≤ 1000000 := by simp; omega
 have hall : (g.play (.add i m)).all = g.all.take k ++ m := by unfold LG.play; simp [hk]
 refine Qn func106 rfl ntmps106 rfl (fun σ F Q hret hend hpan => ?_)
 try simp only [cB]
 unfold lgB lgC
 refine Xd (L := [blk b [.pointer d, .bool g.down, .int .u64 g.term, .int .i64 g.vote, .int .u64 g.base, .int .u64 g.baseT, .string (str g.state), .slice q g.all.length cap] 111]) [0, 1, 2, 3, 4, 5, 6, 7, 8, 9, 10, 11, 13] [12, 14] [15, 16, 17] _ sb_ (by kernel_rfl) (by kernel_rfl) (by kernel_rfl) rfl ?_
 refine Wa rfl (fun R1 hR1 G => (Qg rfl)) ?_
 refine Wa rfl (fun R1 hR1 G => (Qg rfl)) ?_
 refine Wa rfl (fun R1 hR1 G => (Qf rfl)) ?_
 refine Wa rfl (fun R1 hR1 G => (Ga underlying111 sizeOf76)) ?_
 refine Wa rfl (fun R1 hR1 G => (La o76)) ?_
 refine Wa rfl (fun R1 hR1 G => (Qg rfl)) ?_
 refine Wa rfl (fun R1 hR1 G => (Qg rfl)) ?_
 refine Wa rfl (fun R1 hR1 G => (Qf rfl)) ?_
 refine Wa rfl (fun R1 hR1 G => (Ga underlying111 sizeOf36)) ?_
 refine Wa rfl (fun R1 hR1 G => (La o36)) ?_
 refine Wa rfl (fun R1 hR1 G => (Yld.to (u := .int .u64 (k : Int)) (ZE rfl rfl (by omega)) (by rw [hk]))) ?_
 refine Wa rfl (fun R1 hR1 G => (Zk (l := 0) (h := k) underlying76 sizeOf93 rfl rfl ⟨.u64, rfl⟩ (by omega))) ?_
 refine Wa rfl (fun R1 hR1 G => (Qg rfl)) ?_
 refine Xc ?_
 refine QH rfl ?_
 try simp only [cC]
 refine Ra call101 (Qfw (g.all.take k) _ hsub hkl) ?_
 rintro r R2 L' hR2 ⟨rfl, hro, rfl⟩
 try simp only [cB]
 refine QI le_ sb_ ?_
 refine QH rfl ?_
 try simp only [cC]
 refine XF (sz := 2) (by_ := 24) ⟨underlying76, _, _, rfl, rfl, rfl, rfl, rfl⟩ (wn0 rfl) rfl rfl rfl fd_ ((FrX.src (T := entE) underlying76 (Qdj m) hvs)) rfl om_ (by simp only [maxLen]; omega) (fun v20 ho20 hh20 => ?_)
 rw [show Yt (g.all.take k) ++ (m.map Yu).flatten = Yt (g.all.take k ++ m) from Qje _ _, ← List.length_append]
 refine QI le_ sb_ ?_
 refine Xe ?_
 try simp only [cC]
 refine Pa (Qf rfl) ?_
 refine Pa (Ga underlying111 sizeOf76) ?_
 refine Sa o76 ?_
 refine Yd (e := 93) (sz := 2) (n := (g.all.take k ++ m).length) (v := v20) (xs := Yt (g.all.take k ++ m)) fd_ (fun R3 hR3 hfr hxl => ?_)
 have hfx := Qa4 hfr
 refine Qe (hend _ _ _ ?_)
 apply QD results106 .nil _ [lgB b d v20 (g.play (.add i m))] hR3 rfl
 case hp => exact ⟨v20, by rw [hall]; exact hfx, rfl⟩
 case hS => exact sb_
theorem Qdc {R : Hp} (b bd : Nat) (va u vm : Value) (g : LG) (D : DK) (n : Nat) (i : Int) (m : List Ent) (hg : g.ok) (hi : QM i) (hva : FrX entE R g.all va) (hvm : FrX entE R m vm) (hm : m.length ≤ 100000) (hmb : ∀ e ∈ m, QM e.1 ∧ e.2.length ≤ 1000000) (hml : XG m ≤ 16000000) (hD : D.ok n) (hn : n ≤ 900000000) :
  Tri prog 87 [.pointer (some ⟨b, 0, none⟩), .int .u64 i, vm] R [lgB b (some ⟨bd, 0, none⟩) va g, dkB bd u D, dkS u D]
   (fun x R' L' => x = .int .i64 (g.addD D i m).1 ∧ ∃ u' va', FrX entE R' (g.addD D i m).2.1.all va' ∧ L' = [lgB b (some ⟨bd, 0, none⟩) va' (g.addD D i m).2.1, dkB bd u' (g.addD D i m).2.2, dkS u' (g.addD D i m).2.2]) := by
 have hdq := yv (R := R) b bd va u g D
 have hlq := YC (R := R) b (some ⟨bd, 0, none⟩) va g hg hva
 have hvo := hva.one
 have hvmo := hvm.one
 have hb := hg.base
 have hle : g.last = g.base + g.all.length := rfl
 refine Qn func87 rfl ntmps87 rfl (fun σ F Q hret hend hpan => ?_)
 try simp only [cB]
 unfold lgB lgC at hdq hlq ⊢
 refine Qd fun K1 hK1 => Qc (Ps (Qe (hK1 _ _ _ (Qd fun K2 hK2 => Qp (Qd fun K3 hK3 => Qc ?_)))))
 refine Pm ?_
 refine Pa (Ca call59 (hdq)) (Ps (Qe (hK3 _ _ _ ?_)))
 refine Qm rfl (fun hc8 => ?_) (fun hc8 => ?_)
 have f0 : (g.down || D.down) = true := hc8
 refine Qd fun K5 hK5 => Qc (Ps (Qe (hK5 _ _ _ (Qi (hret _ _ _ ?_)))))
 refine Ea results87 (.cons (Qh rfl) .nil) [lgB b (some ⟨bd, 0, none⟩) va g, dkB bd u D, dkS u D] (by first | exact Hp.le_refl _ | exact Hp.le_trans hR2 hR3 | exact Hp.le_trans hR23 hR4) ?_
 rw [show g.addD D i m = (3, g, D) by unfold LG.addD; rw [if_pos f0]]; exact ⟨rfl, u, va, hva, rfl⟩
 have f0 : ¬ (g.down || D.down) = true := by simpa using hc8
 refine Qd fun K6 hK6 => Qc (Pm (Pm ?_))
 refine Pa (Qf rfl) ?_
 refine Pa (Ga underlying111 sizeOf36) ?_
 refine Pa (La o36) ?_
 refine Pa (QO rfl rfl) (Pm ?_)
 refine QE 18 rfl (fun hg18 => ?_) (fun hg18 => ?_)
 have f1 : i < g.base ∨ i > g.last := .inl (by simpa using hg18)
 refine Pk (Pk (Pk (Pk ?_)))
 refine Pa (Qr rfl rfl) (Ps (Qe (hK6 _ _ _ ?_)))
 refine Ql (eL 0 rfl (eL 1 rfl (eL 2 rfl (eL 11 rfl eN)))) ?_
 refine Qv rfl (Qd fun K7 hK7 => Qc (Ps (Qe (hK7 _ _ _ (Qi (hret _ _ _ ?_))))))
 refine Ea results87 (.cons (Qh rfl) .nil) [lgB b (some ⟨bd, 0, none⟩) va g, dkB bd u D, dkS u D] (by first | exact Hp.le_refl _ | exact Hp.le_trans hR2 hR3 | exact Hp.le_trans hR23 hR4) ?_
 rw [show g.addD D i m = (1, g, D) by unfold LG.addD; rw [if_neg f0, if_pos f1]]; exact ⟨rfl, u, va, hva, rfl⟩
 have f10 : ¬ i < g.base := by simpa using hg18
 refine Pb (Qg rfl) ?_
 refine Pb (Qg rfl) ?_
 refine Pb (Ca call60 (hlq)) ?_
 refine Pb (Xs rfl rfl) ?_
 refine Pa (Qo rfl rfl) (Ps (Qe (hK6 _ _ _ ?_)))
 refine Qm rfl (fun hc11 => ?_) (fun hc11 => ?_)
 first | have f1 : i < g.base ∨ i > g.last := .inr (by simpa using hc11) | skip
 refine Qd fun K9 hK9 => Qc (Ps (Qe (hK9 _ _ _ (Qi (hret _ _ _ ?_)))))
 refine Ea results87 (.cons (Qh rfl) .nil) [lgB b (some ⟨bd, 0, none⟩) va g, dkB bd u D, dkS u D] (by first | exact Hp.le_refl _ | exact Hp.le_trans hR2 hR3 | exact Hp.le_trans hR23 hR4) ?_
 rw [show g.addD D i m = (1, g, D) by unfold LG.addD; rw [if_neg f0, if_pos f1]]; exact ⟨rfl, u, va, hva, rfl⟩
 have f1 : ¬ (i < g.base ∨ i > g.last) := by (try simp at hc11); omega
 refine Qj (hK2 _ _ _ (Qd fun K10 hK10 => Qd fun K11 hK11 => Qc ?_))
 have hib : g.base ≤ i ∧ i ≤ g.last := by omega
 have hmay : (Rec.add i m).may g := ⟨hib, hmb, hm⟩
 have hu1 : QM 1 := by unfold QM; omega
 have hln := Rec.len_add (b := i) (by have := hg.alln; omega) hmb hm
 refine Pm ?_
 refine Pa (Ca call95 (ZO _)) (Pm ?_)
 refine Pa (Ca call95 (ZO _)) (Pm ?_)
 refine Ra call108 (QiZ m vm hvm hmb hm) ?_
 rintro r R2 L' hR2 ⟨⟨cy, rfl, hrep⟩, rfl⟩
 have hrep2 := hrep
 obtain ⟨k0, n0, s0, l0, q0, cap0, _, rfl, _, _⟩ := hrep2.inv
 try simp only [cB]
 refine Qz (sz := 4) (wn0 rfl) rfl underlying148 sizeOf150 zeroValue150 rfl rfl rfl (by decide) (by decide) (fun bk => ?_)
 refine Ra call94 (QdK b bd va u g D n (Rec.add i m) (.slice (some ⟨bk, 0, none⟩) 3 3) [[.int .i64 0, .int .u64 1, .string (str []), .slice none 0 0], [.int .i64 0, .int .u64 i, .string (str []), .slice none 0 0], [.int .i64 k0, .int .u64 n0, .string (str s0), .slice q0 l0.length cap0]] (QkY (ZG hu1) (ZG hi) hrep) hg hmay (by omega) hD hn) ?_
 rintro x R3 L' hR3 ⟨rfl, u2, rfl⟩
 unfold lgB lgC
 try simp only [cB]
 refine Ps (Qe (hK11 _ _ _ (Qd fun K12 hK12 => Qc ?_)))
 refine Pm ?_
 refine Pa (XU rfl rfl) (Qe (hK12 _ _ _ ?_))
 refine Qm rfl (fun hc33 => ?_) (fun hc33 => ?_)
 have f2 : ¬ (D.put (Rec.add i m).bytes).1 = 0 := by simpa using hc33
 refine Qd fun K14 hK14 => Qc (Pm (Ps (Qe (hK14 _ _ _ ?_))))
 refine Ql (eL 6 rfl eN) ?_
 refine Qi (hret _ _ _ ?_)
 refine Ea results87 (.cons (Qh rfl) .nil) [lgB b (some ⟨bd, 0, none⟩) va { g with down := or g.down (!decide ((D.put (Rec.add i m).bytes).1 = 0)) }, dkB bd u2 (D.put (Rec.add i m).bytes).2, dkS u2 (D.put (Rec.add i m).bytes).2] (by first | exact Hp.le_refl _ | exact Hp.le_trans hR2 hR3 | exact Hp.le_trans hR23 hR4) ?_
 rw [show g.addD D i m = ((D.put (Rec.add i m).bytes).1, { g with down := true }, (D.put (Rec.add i m).bytes).2) by unfold LG.addD; rw [if_neg f0, if_neg f1, if_neg f2]]; refine ⟨rfl, u2, va, (hva.mono hR2).mono hR3, ?_⟩; simp [f2]
 have f2 : (D.put (Rec.add i m).bytes).1 = 0 := by simpa using hc33
 have hR23 := Hp.le_trans hR2 hR3
 obtain ⟨g2, hg2⟩ : ∃ g2 : LG, g2 = { g with down := or g.down (!decide ((D.put (Rec.add i m).bytes).1 = 0)) } := ⟨_, rfl⟩
 have hgd : g2 = g := by rw [hg2]; simp [f2]
 refine Qj (hK10 _ _ _ (Qd fun K15 hK15 => Qc (Pm (Pm (Pm ?_)))))
 refine Xu (A := blk b [.pointer (some ⟨bd, 0, none⟩), .bool (or g.down (!decide ((D.put (Rec.add i m).bytes).1 = 0))), .int .u64 g.term, .int .i64 g.vote, .int .u64 g.base, .int .u64 g.baseT, .string (str g.state), va] 111) (B := lgB b (some ⟨bd, 0, none⟩) va g) fd_ (fun h hh => by simpa [f2, lgB, lgC] using hh) ?_
 refine Ra call106 (Qfd b (some ⟨bd, 0, none⟩) va vm g i m hg hib (hva.mono hR23) (hvm.mono hR23) (by omega)) ?_
 rintro x R4 L' hR4 ⟨va2, hva2, rfl⟩
 unfold lgB lgC
 try simp only [cB]
 refine Qe (hK15 _ _ _ ?_)
 refine Ql eN ?_
 refine Qd fun K16 hK16 => Qc (Ps (Qe (hK16 _ _ _ (Qi (hret _ _ _ ?_)))))
 refine Ea results87 (.cons (Qh rfl) .nil) [lgB b (some ⟨bd, 0, none⟩) va2 (g.play (.add i m)), dkB bd u2 (D.put (Rec.add i m).bytes).2, dkS u2 (D.put (Rec.add i m).bytes).2] (by first | exact Hp.le_refl _ | exact Hp.le_trans hR2 hR3 | exact Hp.le_trans hR23 hR4) ?_
 rw [show g.addD D i m = (0, g.play (.add i m), (D.put (Rec.add i m).bytes).2) by unfold LG.addD; rw [if_neg f0, if_neg f1, if_pos f2]]; exact ⟨rfl, u2, va2, hva2, rfl⟩
theorem RepN.kids {R : Hp} {k : Int} {n : Nat} {s : Bs} {l : List Nd} {cx : List Value} (h : RepN R (.mk k n s l) cx) : ∃ q cap, cx = [.int .i64 k, .int .u64 ((n : Nat) : Int), .string (str s), .slice q l.length cap] ∧ RepL R l q cap := by
 obtain ⟨k1, n1, s1, l1, q, cap, e, rfl, _, hl⟩ := h.inv
 cases e
 exact ⟨q, cap, rfl, hl⟩
theorem RepL.mono {R R' : Hp} (hR : R.le R') {l : List Nd} {q : Option Addr} {cap : Nat} (h : RepL R l q cap) : RepL R' l q cap := by
 obtain ⟨k1, n1, s1, l1, q1, cap1, e, e2, _, hl⟩ := ((h.node (k := 0) (n := 0) (s := []) (by simp [big])).mono hR).inv
 cases e
 cases e2
 exact hl
theorem RepL.kid {R : Hp} {l : List Nd} {b off cap : Nat} (h : RepL R l (some ⟨b, off, none⟩) cap) {i : Nat} {k : Int} {n : Nat} {s : Bs} {m : List Nd} (hx : l[i]? = some (.mk k n s m)) :
  ∃ q c, RepL R m q c ∧ Hp.cell R ⟨b, off + i * 4 + 0, none⟩ = some (.int .i64 k) ∧ Hp.cell R ⟨b, off + i * 4 + 1, none⟩ = some (.int .u64 ((n : Nat) : Int)) ∧ Hp.cell R ⟨b, off + i * 4 + 2, none⟩ = some (.string (str s)) ∧ Hp.cell R ⟨b, off + i * 4 + 3, none⟩ = some (.slice q m.length c) := by
 obtain ⟨b1, o1, cs, e, _, hr, hc⟩ := h.at hx
 cases e
 obtain ⟨q, c, rfl, hm⟩ := hr.kids
 exact ⟨q, c, hm, hc 0 _ rfl, hc 1 _ rfl, hc 2 _ rfl, hc 3 _ rfl⟩
theorem QdV {R : Hp} (l : List Ent) (cx : List Value) (hx : RepN R (Zm l) cx) (hb : ∀ e ∈ l, QM e.1) (hn : l.length ≤ 100000) : Tri prog 105 [.agg ⟨cx⟩] R [] (fun r R' L' => (∃ v, r = QF [v, .bool true] ∧ FrX entE R' l v) ∧ L' = []) := by
 obtain ⟨q, cap, rfl, hl⟩ := RepN.kids (k := 2) (n := 0) (s := []) (l := l.map YW) hx
 refine Qn func105 rfl ntmps105 rfl (fun σ F Q hret hend hpan => ?_)
 try simp only [cB]
 refine Qd fun K1 hK1 => Qc ?_
 refine Xa (wn0 rfl) rfl rfl rfl (fun b1 => ?_)
 refine Ps (Ps (Qe (hK1 _ _ _ (Qd fun K2 hK2 => Qc ?_))))
 refine Ps ?_
 refine YR (A := slc 93 2 (.slice none 0 0) 0 (Yt [])) (Yr _ _) ?_
 refine Qe (hK2 _ _ _ (Qd fun K3 hK3 => Qd fun K4 hK4 => Qc ?_))
 refine Pa (Ga underlying150 sizeOf148) ?_
 refine Pa (La Ys) ?_
 refine Pa (QR underlying148 rfl) (Pm (Qe (hK4 _ _ _ (Qp ?_))))
 refine Ql (E' := (fun (x1 : Nat × Value × Hp) => [(1, .pointer (some ⟨b1, 0, none⟩)), (4, x1.2.1), (8, .slice q (l.map YW).length cap), (9, .int .i64 ((l.map YW).length : Int)), (10, .int .i64 (x1.1 : Int))]) (0, .slice none 0 0, R)) (eC rfl (eC rfl (eC rfl (eC rfl (eC rfl eN))))) ?_
 refine Xi (M := (fun (x1 : Nat × Value × Hp) => slc 93 2 x1.2.1 x1.1 (Yt (l.take x1.1)) :: blk b1 [.int .i64 2, .int .u64 0, .string (str []), .slice q (l.map YW).length cap] 150 :: F) (0, .slice none 0 0, R)) sb_ ?_
 refine QY (fun (x1 : Nat × Value × Hp) => [(1, .pointer (some ⟨b1, 0, none⟩)), (4, x1.2.1), (8, .slice q (l.map YW).length cap), (9, .int .i64 ((l.map YW).length : Int)), (10, .int .i64 (x1.1 : Int))]) (fun (x1 : Nat × Value × Hp) => x1.2.2) (fun (x1 : Nat × Value × Hp) => slc 93 2 x1.2.1 x1.1 (Yt (l.take x1.1)) :: blk b1 [.int .i64 2, .int .u64 0, .string (str []), .slice q (l.map YW).length cap] 150 :: F) (fun (x1 : Nat × Value × Hp) => x1.1 ≤ l.length ∧ x1.2.1.oneCell' = true ∧ R.le x1.2.2) (fun (x1 : Nat × Value × Hp) => l.length - x1.1) (0, .slice none 0 0, R) (⟨by simp, rfl, Hp.le_refl _⟩) ?_
 rintro ⟨i, vl, R3⟩ ⟨hi, hvl, hR3⟩
 try dsimp only
 dsimp only at hi hvl hR3
 refine Qd fun K5 hK5 => Qc ?_
 refine Pa (QO rfl rfl) (Qe (hK5 _ _ _ (Qd fun K6 hK6 => ?_)))
 refine Qm rfl (fun hc11 => ?_) (fun hc11 => ?_)
 try simp only [dx] at hc11
 refine Qj (hK6 _ _ _ (Qd fun K8 hK8 => Qp (Qd fun K9 hK9 => Qc ?_)))
 have hi2 : i < l.length := by (try simp at hc11); omega
 obtain ⟨e, he⟩ : ∃ x, l[i]? = some x := ⟨_, List.getElem?_eq_getElem hi2⟩
 have heb := hb e (List.mem_of_getElem? he)
 obtain ⟨be, oe, ce, rfl, hcl, hrep, hcell⟩ := (hl.mono hR3).at (i := i) (x := YW e) (by rw [List.getElem?_map, he]; rfl)
 obtain ⟨q2, cap2, rfl, hl2⟩ := RepN.kids (k := 2) (n := 0) (s := []) (l := [Yi e.1.toNat, Zh e.2]) hrep
 obtain ⟨b2, o2, _, rfl, _⟩ := hl2.at (i := 0) rfl
 obtain ⟨_, _, _, _, hc0, _, _⟩ := hl2.kid (i := 0) rfl
 obtain ⟨_, _, _, _, _, hc1, _⟩ := hl2.kid (i := 1) rfl
 rw [(Zu heb).2] at hc0
 refine Pa (Qy underlying148 sizeOf150 rfl rfl om_) ?_
 refine Pa ((XT Qw (vs := [.int .i64 2, .int .u64 0, .string (str []), .slice (some ⟨b2, o2, none⟩) 2 cap2]) hcl rfl (fun j u hj => hcell j u hj))) ?_
 refine QA (wn0 rfl) rfl zeroValue150 rfl (fun b6 => ?_)
 refine yP (vs := [.int .i64 2, .int .u64 0, .string (str []), .slice (some ⟨b2, o2, none⟩) 2 cap2]) Qw hcl (wn0 rfl) rfl rfl (ZU hrep) fd_ rfl ?_
 refine Qe (hK9 _ _ _ (Qd fun K10 hK10 => Qd fun K11 hK11 => Qc ?_))
 refine Pa (Ga underlying150 sizeOf148) ?_
 refine Pa (La Ys) ?_
 refine Qz (sz := 1) (wn0 rfl) rfl underlying187 sizeOf3 zeroValue3 rfl rfl rfl (by decide) (by decide) (fun b16 => ?_)
 refine Yd (e := 3) (sz := 1) (n := 2) (v := .slice (some ⟨b16, 0, none⟩) 2 2) (xs := Qah [0, 1]) fd_ (fun R4 hR4 hfr hxl => ?_)
 refine Pa (Ca call104 (Qbc _ _ _ (hl2.mono hR4) [0, 1] _ (Qcy (l := [0, 1]) hfr))) ?_
 refine Xg 17 rfl (v' := .bool true) (by simp [Yi, Zh, Nd.kind]) ?_
 refine Pa (Yq rfl) (Qe (hK11 _ _ _ (Qs rfl (Qj (hK10 _ _ _ ?_)))))
 refine Xd (L := [blk b6 [.int .i64 2, .int .u64 0, .string (str []), .slice (some ⟨b2, o2, none⟩) 2 cap2] 150]) [0, 1, 2, 3, 4, 5, 6, 7, 8, 9, 10, 11] [12] [13, 14] _ sb_ (by kernel_rfl) (by kernel_rfl) (by kernel_rfl) rfl ?_
 refine Wa rfl (fun R1 hR1 G => (Qg rfl)) ?_
 refine Wa rfl (fun R1 hR1 G => (Ga underlying150 sizeOf148)) ?_
 refine Wa rfl (fun R1 hR1 G => (La Ys)) ?_
 refine Wa rfl (fun R1 hR1 G => (Qy underlying148 sizeOf150 rfl rfl om_)) ?_
 refine Wa rfl (fun R1 hR1 G => (Ga underlying150 sizeOf36)) ?_
 refine Wa rfl (fun R1 hR1 G => (Xw o36 rfl (Ye (Hp.le_trans hR4 hR1) hc0))) ?_
 refine Wa rfl (fun R1 hR1 G => (Ga underlying150 sizeOf148)) ?_
 refine Wa rfl (fun R1 hR1 G => (La Ys)) ?_
 refine Wa rfl (fun R1 hR1 G => (Qy underlying148 sizeOf150 rfl rfl om_)) ?_
 refine Wa rfl (fun R1 hR1 G => (Ga underlying150 sizeOf9)) ?_
 refine Wa rfl (fun R1 hR1 G => (Xw o9 rfl (Ye (Hp.le_trans hR4 hR1) hc1))) ?_
 refine Wa rfl (fun R1 hR1 G => (QV (cells := [_, _]) [(0, 1), (1, 1)] underlying93 zeroValue93 (fun _ => rfl) rfl rfl)) ?_
 refine Xc ?_
 refine QH rfl ?_
 try simp only [cC]
 refine Qz (sz := 2) (wn0 rfl) rfl underlying76 sizeOf93 zeroValue93 rfl rfl rfl (by decide) (by decide) (fun b31 => ?_)
 refine QI le_ sb_ ?_
 refine Xe ?_
 try simp only [cC]
 refine XF (sz := 2) (by_ := 24) ⟨underlying76, _, _, rfl, rfl, rfl, rfl, rfl⟩ (wn0 rfl) rfl rfl rfl fd_ (YT (xs := Yu e) underlying76 fd_ (entE.one (R := R4) (x := e) rfl)) rfl om_ (by simp only [maxLen]; omega) (fun v32 ho32 hh32 => ?_)
 rw [show Yt (l.take i) ++ Yu e = Yt (l.take (i + 1)) by unfold Yt; rw [QbW he]; simp]
 refine Ps (Qe (hK8 _ _ _ ?_))
 refine Ql (eL 1 rfl (eL 4 rfl (eL 8 rfl (eL 9 rfl (eL 10 rfl eN))))) ?_
 refine Qc ?_
 refine Pa (Qt rfl rfl om_) (Pm (Qe ?_))
 refine Xl (q' := QS _ _ _ _ _ _ _) rfl ?_
 refine QC ((i + 1, v32, R4)) (⟨by dsimp only; omega, by assumption, Hp.le_trans hR3 hR4⟩) (by dsimp only; omega) (eC rfl (eC rfl (eC rfl (eC rfl (eC rfl eN))))) rfl sb_
 try simp only [dx] at hc11
 refine QL (hK3 _ _ _ (Qd fun K12 hK12 => ?_))
 obtain rfl : i = l.length := by (try simp at hc11); omega
 rw [List.take_length]
 refine Qji (e := 93) (sz := 2) (n := l.length) (v := vl) (xs := Yt l) fd_ (fun R5 hR5 hfr5 hxl5 => ?_)
 have hfx := Qa4 hfr5
 obtain ⟨q5, cap5, rfl, _, _⟩ := hfx.shape
 refine Xr (by kernel_rfl) (by kernel_rfl) ?_
 refine Qa (Qg rfl) ?_
 refine Qa (Ga underlying150 sizeOf3) ?_
 refine Qa (La o3) ?_
 refine Qa (QB rfl rfl) ?_
 refine Qa (Xj rfl) ?_
 refine Qa (Xj rfl) ?_
 refine Xb ?_
 refine hK12 _ _ _ (Qi (hret _ _ _ ?_))
 refine Ea results105 (.cons (Qh rfl) (.cons (Qh rfl) .nil)) [] (by exact Hp.le_trans hR3 hR5) ?_
 exact ⟨⟨_, rfl, hfx⟩, rfl⟩
theorem QeT {R : Hp} (b : Nat) (d : Option Addr) (va : Value) (g : LG) (t v : Int) (hm : (Rec.term t v).may g) (cx : List Value) (hx : RepN R (Rec.term t v).nd cx) :
  Tri prog 83 [.pointer (some ⟨b, 0, none⟩), .agg ⟨cx⟩] R [lgB b d va g] (fun x R' L' => x = .bool true ∧ L' = [lgB b d va (g.play (.term t v))]) := by
 obtain ⟨h1, h2, h3⟩ := hm
 obtain ⟨q, cap, rfl, hl⟩ := RepN.kids (k := 2) (n := 0) (s := []) (l := [Yi 0, Yi t.toNat, Yi (v + 1).toNat]) hx
 obtain ⟨b0, o0, _, rfl, _⟩ := hl.at (i := 0) rfl
 obtain ⟨_, _, _, hk0, hn0, _, _⟩ := hl.kid (i := 0) rfl
 obtain ⟨_, _, _, _, hn1, _, _⟩ := hl.kid (i := 1) rfl
 obtain ⟨_, _, _, _, hn2, _, _⟩ := hl.kid (i := 2) rfl
 rw [(Zu h1).2] at hn1
 rw [show (((v + 1).toNat : Nat) : Int) = v + 1 by omega] at hn2
 refine Qn func83 rfl ntmps83 rfl (fun σ F Q hret hend hpan => ?_)
 try simp only [cB]
 unfold lgB lgC
 refine Qd fun K1 hK1 => Qc ?_
 refine Xa (wn0 rfl) rfl rfl rfl (fun bx => ?_)
 refine Ps (Qe (hK1 _ _ _ (Qd fun K2 hK2 => Qd fun K3 hK3 => Qc ?_)))
 refine Pa (Ga underlying150 sizeOf148) ?_
 refine Pa (La Ys) ?_
 refine Pa (QR underlying148 rfl) ?_
 refine Pa (QB rfl rfl) (Pm ?_)
 refine Pb (Ga underlying150 sizeOf148) ?_
 refine Pb (La Ys) ?_
 refine Pb (Qy underlying148 sizeOf150 rfl rfl om_) ?_
 refine Pb (Ga underlying150 sizeOf3) ?_
 refine Pb ((Xw o3 rfl hk0)) ?_
 refine Pb (XU rfl rfl) ?_
 refine Pa (Qo rfl rfl) (Qe (hK3 _ _ _ (Qs rfl (Qj (hK2 _ _ _ (Qd fun K4 hK4 => Qc ?_))))))
 refine Pa (Ga underlying150 sizeOf148) ?_
 refine Pa (La Ys) (Ps (Qe (hK4 _ _ _ (Qd fun K5 hK5 => Qp (Qd fun K6 hK6 => Qc ?_)))))
 refine Pm ?_
 refine Pa (Qy underlying148 sizeOf150 rfl rfl om_) ?_
 refine Pa (Ga underlying150 sizeOf36) ?_
 refine Pa ((Xw o36 rfl hn0)) ?_
 refine Pa (QB rfl rfl) (Pm ?_)
 refine Pb (Qg rfl) ?_
 refine Qz (sz := 1) (wn1 rfl rfl rfl rfl) rfl underlying187 sizeOf3 zeroValue3 rfl rfl rfl (by decide) (by decide) (fun b32 => ?_)
 refine Yd (e := 3) (sz := 1) (n := 3) (v := .slice (some ⟨b32, 0, none⟩) 3 3) (xs := Qah [0, 0, 0]) fd_ (fun R4 hR4 hfr hxl => ?_)
 refine Pb (Ca call104 (Qbc _ _ _ (hl.mono hR4) [0, 0, 0] _ (Qcy (l := [0, 0, 0]) hfr))) ?_
 refine Xg 33 rfl (v' := .bool true) (by simp [Yi, Zh, Zm, Nd.kind]) ?_
 refine Pa (Qr rfl rfl) (Ps (Qe (hK6 _ _ _ ?_)))
 refine Ql (eL 0 rfl (eL 5 rfl (eL 24 rfl eN))) ?_
 refine Qv rfl (Qd fun K7 hK7 => ?_)
 refine Xd (L := []) [0, 1, 2, 3, 4, 5, 6, 7, 8, 9, 10, 11, 12, 13] [14] [15, 16, 17] _ sb_ (by kernel_rfl) (by kernel_rfl) (by kernel_rfl) rfl ?_
 refine Wa rfl (fun R1 hR1 G => (Qg rfl)) ?_
 refine Wa rfl (fun R1 hR1 G => (Qg rfl)) ?_
 refine Wa rfl (fun R1 hR1 G => (Qg rfl)) ?_
 refine Wa rfl (fun R1 hR1 G => (Qy underlying148 sizeOf150 rfl rfl om_)) ?_
 refine Wa rfl (fun R1 hR1 G => (Ga underlying150 sizeOf36)) ?_
 refine Wa rfl (fun R1 hR1 G => (Xw o36 rfl (Ye (Hp.le_trans hR4 hR1) hn1))) ?_
 refine Wa rfl (fun R1 hR1 G => (Qg rfl)) ?_
 refine Wa rfl (fun R1 hR1 G => (Qy underlying148 sizeOf150 rfl rfl om_)) ?_
 refine Wa rfl (fun R1 hR1 G => (Ga underlying150 sizeOf36)) ?_
 refine Wa rfl (fun R1 hR1 G => (Xw o36 rfl (Ye (Hp.le_trans hR4 hR1) hn2))) ?_
 refine Wa rfl (fun R1 hR1 G => (Xp underlying36 underlying3 rfl (by (simp only [IntKind.min, IntKind.max, IntKind.signed, IntKind.bits, Bool.false_eq_true, ite_false, ite_true]; omega)))) ?_
 refine Wa rfl (fun R1 hR1 G => (Yld.to (YN rfl rfl (by omega)) (u := .int .i64 v) (by rw [show v + 1 - 1 = v by omega]))) ?_
 refine Wa rfl (fun R1 hR1 G => (Qf rfl)) ?_
 refine Wa rfl (fun R1 hR1 G => (Ga underlying111 sizeOf36)) ?_
 refine Xc ?_
 refine QH rfl ?_
 try simp only [cC]
 refine Sa o36 ?_
 refine QI le_ sb_ ?_
 refine Xe ?_
 try simp only [cC]
 refine Pa (Qf rfl) ?_
 refine Pa (Ga underlying111 sizeOf3) ?_
 refine Sa o3 ?_
 refine Qe (hK7 _ _ _ ?_)
 refine Ql eN ?_
 refine Qd fun K8 hK8 => Qc (Ps (Qe (hK8 _ _ _ (Qi (hret _ _ _ ?_)))))
 refine Ea results83 (.cons (Qh rfl) .nil) [lgB b d va (g.play (.term t v))] le_ ?_
 exact ⟨rfl, rfl⟩
theorem QfY {R : Hp} (b : Nat) (d : Option Addr) (va : Value) (g : LG) (i : Int) (m : List Ent) (hg : g.ok) (hm : (Rec.add i m).may g) (hva : FrX entE R g.all va) (cx : List Value) (hx : RepN R (Rec.add i m).nd cx) :
  Tri prog 83 [.pointer (some ⟨b, 0, none⟩), .agg ⟨cx⟩] R [lgB b d va g] (fun x R' L' => x = .bool true ∧ ∃ va', FrX entE R' (g.play (.add i m)).all va' ∧ L' = [lgB b d va' (g.play (.add i m))]) := by
 obtain ⟨⟨h1, h2⟩, h3, h4⟩ := hm
 have hb := hg.base
 obtain ⟨q, cap, rfl, hl⟩ := RepN.kids (k := 2) (n := 0) (s := []) (l := [Yi 1, Yi i.toNat, Zm m]) hx
 obtain ⟨b0, o0, _, rfl, _⟩ := hl.at (i := 0) rfl
 obtain ⟨_, _, _, hk0, hn0, _, _⟩ := hl.kid (i := 0) rfl
 obtain ⟨_, _, _, _, hn1, _, _⟩ := hl.kid (i := 1) rfl
 obtain ⟨_, _, _, e2, _, hr2, hcell2⟩ := hl.at (i := 2) (x := Zm m) rfl
 cases e2
 obtain ⟨q2, cap2, rfl, hl2⟩ := RepN.kids (k := 2) (n := 0) (s := []) (l := m.map YW) hr2
 rw [show ((i.toNat : Nat) : Int) = i by omega] at hn1
 have hlq := YC (R := R) b d va g hg hva
 refine Qn func83 rfl ntmps83 rfl (fun σ F Q hret hend hpan => ?_)
 try simp only [cB]
 unfold lgB lgC
 refine Qd fun K1 hK1 => Qc ?_
 refine Xa (wn0 rfl) rfl rfl rfl (fun bx => ?_)
 refine Ps (Qe (hK1 _ _ _ (Qd fun K2 hK2 => Qd fun K3 hK3 => Qc ?_)))
 refine Pa (Ga underlying150 sizeOf148) ?_
 refine Pa (La Ys) ?_
 refine Pa (QR underlying148 rfl) ?_
 refine Pa (QB rfl rfl) (Pm ?_)
 refine Pb (Ga underlying150 sizeOf148) ?_
 refine Pb (La Ys) ?_
 refine Pb (Qy underlying148 sizeOf150 rfl rfl om_) ?_
 refine Pb (Ga underlying150 sizeOf3) ?_
 refine Pb ((Xw o3 rfl hk0)) ?_
 refine Pb (XU rfl rfl) ?_
 refine Pa (Qo rfl rfl) (Qe (hK3 _ _ _ (Qs rfl (Qj (hK2 _ _ _ (Qd fun K4 hK4 => Qc ?_))))))
 refine Pa (Ga underlying150 sizeOf148) ?_
 refine Pa (La Ys) (Ps (Qe (hK4 _ _ _ (Qd fun K5 hK5 => Qp (Qd fun K6 hK6 => Qc ?_)))))
 refine Pm ?_
 refine Pa (Qy underlying148 sizeOf150 rfl rfl om_) ?_
 refine Pa (Ga underlying150 sizeOf36) ?_
 refine Pa ((Xw o36 rfl hn0)) ?_
 refine Pa (QB rfl rfl) (Pm (Pk (Pk (Pk ?_))))
 refine Pa (Qo rfl rfl) (Ps (Qe (hK6 _ _ _ ?_)))
 refine Ql (eL 0 rfl (eL 5 rfl (eL 24 rfl eN))) ?_
 refine Qs rfl (Qd fun K7 hK7 => Qc (Pm ?_))
 refine Pa (Qy underlying148 sizeOf150 rfl rfl om_) ?_
 refine Pa (Ga underlying150 sizeOf36) ?_
 refine Pa ((Xw o36 rfl hn0)) ?_
 refine Pa (QB rfl rfl) (Pm ?_)
 refine Pb (Qg rfl) ?_
 refine Qz (sz := 1) (wn1 rfl rfl rfl rfl) rfl underlying187 sizeOf3 zeroValue3 rfl rfl rfl (by decide) (by decide) (fun b59 => ?_)
 refine Yd (e := 3) (sz := 1) (n := 3) (v := .slice (some ⟨b59, 0, none⟩) 3 3) (xs := Qah [0, 0, 2]) fd_ (fun R4 hR4 hfr hxl => ?_)
 refine Pb (Ca call104 (Qbc _ _ _ (hl.mono hR4) [0, 0, 2] _ (Qcy (l := [0, 0, 2]) hfr))) ?_
 refine Xg 60 rfl (v' := .bool true) (by simp [Yi, Zh, Zm, Nd.kind]) ?_
 refine Pa (Qr rfl rfl) (Ps (Qe (hK7 _ _ _ (Qv rfl (Qd fun K8 hK8 => Qc ?_)))))
 refine Pm ?_
 refine Pa (Qy underlying148 sizeOf150 rfl rfl om_) ?_
 refine Pa ((XT Qw (vs := [.int .i64 2, .int .u64 0, .string (str []), .slice q2 (m.map YW).length cap2]) rfl rfl (fun j u hj => Ye hR4 (hcell2 j u hj)))) ?_
 refine Ra call105 (QdV m _ (hr2.mono hR4) (fun e he => (h3 e he).1) h4) ?_
 rintro r R5 L' hR5 ⟨⟨vm, rfl, hvm⟩, rfl⟩
 try simp only [cB]
 refine Pm ?_
 refine Pa (Qq rfl rfl) ?_
 refine Pa (Qq rfl rfl) (Ps (Ps (Qe (hK8 _ _ _ ?_))))
 refine Ql (eL 0 rfl (eL 5 rfl (eL 6 rfl (eL 7 rfl eN)))) ?_
 refine Qd fun K9 hK9 => Qd fun K10 hK10 => ?_
 refine Xr (by kernel_rfl) (by kernel_rfl) ?_
 refine Qa (Qg rfl) ?_
 refine Qa (Yq rfl) ?_
 refine Qa (Qg rfl) ?_
 refine Qb (Qg rfl) ?_
 refine Qb (Qy underlying148 sizeOf150 rfl rfl om_) ?_
 refine Qb (Ga underlying150 sizeOf36) ?_
 refine Qb ((Xw o36 rfl (Ye (Hp.le_trans hR4 hR5) hn1))) ?_
 refine Qb (Qg rfl) ?_
 refine Qb (Qf rfl) ?_
 refine Qb (Ga underlying111 sizeOf36) ?_
 refine Qb (La o36) ?_
 refine Qb ((Yld.to (u := .bool false) (QO rfl rfl) (by rw [decide_eq_false (by omega)]))) ?_
 refine Qa (Qo rfl rfl) ?_
 refine Qa (Qg rfl) ?_
 refine Qb (Qg rfl) ?_
 refine Qb (Qy underlying148 sizeOf150 rfl rfl om_) ?_
 refine Qb (Ga underlying150 sizeOf36) ?_
 refine Qb ((Xw o36 rfl (Ye (Hp.le_trans hR4 hR5) hn1))) ?_
 refine Qb (Qg rfl) ?_
 refine Qb (Ca call60 (YC b d va g hg (hva.mono (Hp.le_trans hR4 hR5)))) ?_
 refine Qb ((Yld.to (u := .bool false) (Xs rfl rfl) (by rw [decide_eq_false (by omega)]))) ?_
 refine Qa (Qo rfl rfl) ?_
 refine Xb ?_
 refine hK10 _ _ _ ?_
 refine Ql (eL 0 rfl (eL 5 rfl (eL 6 rfl (eL 90 rfl eN)))) ?_
 refine Qs rfl (Qj (hK9 _ _ _ (Qd fun K11 hK11 => Qc (Pm (Pm ?_)))))
 refine Pa (Qy underlying148 sizeOf150 rfl rfl om_) ?_
 refine Pa (Ga underlying150 sizeOf36) ?_
 refine Pa ((Xw o36 rfl (Ye (Hp.le_trans hR4 hR5) hn1))) (Pm ?_)
 refine Ra call106 (Qfd b d va vm g i m hg ⟨h1, h2⟩ (hva.mono (Hp.le_trans hR4 hR5)) hvm (by omega)) ?_
 rintro r R6 L' hR6 ⟨va2, hva2, rfl⟩
 try simp only [cB]
 refine Qe (hK11 _ _ _ ?_)
 refine Ql eN ?_
 refine Qd fun K12 hK12 => Qc (Ps (Qe (hK12 _ _ _ (Qi (hret _ _ _ ?_)))))
 refine Ea results83 (.cons (Qh rfl) .nil) [lgB b d va2 (g.play (.add i m))] (by exact Hp.le_trans hR4 (Hp.le_trans hR5 hR6)) ?_
 exact ⟨rfl, va2, hva2, rfl⟩
theorem QfX {R : Hp} (b : Nat) (d : Option Addr) (va : Value) (g h : LG) (hh : h.ok) (hvo : va.oneCell' = true) (cx : List Value) (hx : RepN R (Rec.all h).nd cx) :
  Tri prog 83 [.pointer (some ⟨b, 0, none⟩), .agg ⟨cx⟩] R [lgB b d va g] (fun x R' L' => x = .bool true ∧ ∃ va', FrX entE R' (g.play (.all h)).all va' ∧ L' = [lgB b d va' (g.play (.all h))]) := by
 have hb := hh.base
 have hv := hh.vote
 obtain ⟨q, cap, rfl, hl⟩ := RepN.kids (k := 2) (n := 0) (s := []) (l := [Yi 2, Yi h.term.toNat, Yi (h.vote + 1).toNat, Yi h.base.toNat, Yi h.baseT.toNat, Zh h.state, Zm h.all]) hx
 obtain ⟨b0, o0, _, rfl, _⟩ := hl.at (i := 0) rfl
 obtain ⟨_, _, _, hk0, hn0, _, _⟩ := hl.kid (i := 0) rfl
 obtain ⟨_, _, _, _, hn1, _, _⟩ := hl.kid (i := 1) rfl
 obtain ⟨_, _, _, _, hn2, _, _⟩ := hl.kid (i := 2) rfl
 obtain ⟨_, _, _, _, hn3, _, _⟩ := hl.kid (i := 3) rfl
 obtain ⟨_, _, _, _, hn4, _, _⟩ := hl.kid (i := 4) rfl
 obtain ⟨_, _, _, _, _, hs5, _⟩ := hl.kid (i := 5) rfl
 obtain ⟨_, _, _, e2, _, hr2, hcell2⟩ := hl.at (i := 6) (x := Zm h.all) rfl
 cases e2
 obtain ⟨q2, cap2, rfl, hl2⟩ := RepN.kids (k := 2) (n := 0) (s := []) (l := h.all.map YW) hr2
 rw [(Zu hh.term).2] at hn1
 rw [show (((h.vote + 1).toNat : Nat) : Int) = h.vote + 1 by omega] at hn2
 rw [show ((h.base.toNat : Nat) : Int) = h.base by omega] at hn3
 rw [(Zu hh.baseT).2] at hn4
 refine Qn func83 rfl ntmps83 rfl (fun σ F Q hret hend hpan => ?_)
 try simp only [cB]
 unfold lgB lgC
 refine Qd fun K1 hK1 => Qc ?_
 refine Xa (wn0 rfl) rfl rfl rfl (fun bx => ?_)
 refine Ps (Qe (hK1 _ _ _ (Qd fun K2 hK2 => Qd fun K3 hK3 => Qc ?_)))
 refine Pa (Ga underlying150 sizeOf148) ?_
 refine Pa (La Ys) ?_
 refine Pa (QR underlying148 rfl) ?_
 refine Pa (QB rfl rfl) (Pm ?_)
 refine Pb (Ga underlying150 sizeOf148) ?_
 refine Pb (La Ys) ?_
 refine Pb (Qy underlying148 sizeOf150 rfl rfl om_) ?_
 refine Pb (Ga underlying150 sizeOf3) ?_
 refine Pb ((Xw o3 rfl hk0)) ?_
 refine Pb (XU rfl rfl) ?_
 refine Pa (Qo rfl rfl) (Qe (hK3 _ _ _ (Qs rfl (Qj (hK2 _ _ _ (Qd fun K4 hK4 => Qc ?_))))))
 refine Pa (Ga underlying150 sizeOf148) ?_
 refine Pa (La Ys) (Ps (Qe (hK4 _ _ _ (Qd fun K5 hK5 => Qp (Qd fun K6 hK6 => Qc ?_)))))
 refine Pm ?_
 refine Pa (Qy underlying148 sizeOf150 rfl rfl om_) ?_
 refine Pa (Ga underlying150 sizeOf36) ?_
 refine Pa ((Xw o36 rfl hn0)) ?_
 refine Pa (QB rfl rfl) (Pm (Pk (Pk (Pk ?_))))
 refine Pa (Qo rfl rfl) (Ps (Qe (hK6 _ _ _ ?_)))
 refine Ql (eL 0 rfl (eL 5 rfl (eL 24 rfl eN))) ?_
 refine Qs rfl (Qd fun K7 hK7 => Qc (Pm ?_))
 refine Pa (Qy underlying148 sizeOf150 rfl rfl om_) ?_
 refine Pa (Ga underlying150 sizeOf36) ?_
 refine Pa ((Xw o36 rfl hn0)) ?_
 refine Pa (QB rfl rfl) (Pm (Pk (Pk (Pk ?_))))
 refine Pa (Qo rfl rfl) (Ps (Qe (hK7 _ _ _ (Qs rfl (Qd fun K8 hK8 => Qc ?_)))))
 refine Pm ?_
 refine Pa (Qy underlying148 sizeOf150 rfl rfl om_) ?_
 refine Pa (Ga underlying150 sizeOf36) ?_
 refine Pa ((Xw o36 rfl hn0)) ?_
 refine Pa (QB rfl rfl) (Pm ?_)
 refine Pb (Qg rfl) ?_
 refine Qz (sz := 1) (wn1 rfl rfl rfl rfl) rfl underlying187 sizeOf3 zeroValue3 rfl rfl rfl (by decide) (by decide) (fun b106 => ?_)
 refine Yd (e := 3) (sz := 1) (n := 7) (v := .slice (some ⟨b106, 0, none⟩) 7 7) (xs := Qah [0, 0, 0, 0, 0, 1, 2]) fd_ (fun R4 hR4 hfr hxl => ?_)
 refine Pb (Ca call104 (Qbc _ _ _ (hl.mono hR4) [0, 0, 0, 0, 0, 1, 2] _ (Qcy (l := [0, 0, 0, 0, 0, 1, 2]) hfr))) ?_
 refine Xg 107 rfl (v' := .bool true) (by simp [Yi, Zh, Zm, Nd.kind]) ?_
 refine Pa (Qr rfl rfl) (Ps (Qe (hK8 _ _ _ ?_)))
 refine Ql (eL 0 rfl (eL 5 rfl (eL 98 rfl eN))) ?_
 refine Qv rfl (Qd fun K9 hK9 => Qc (Pm ?_))
 refine Pa (Qy underlying148 sizeOf150 rfl rfl om_) ?_
 refine Pa ((XT Qw (vs := [.int .i64 2, .int .u64 0, .string (str []), .slice q2 (h.all.map YW).length cap2]) rfl rfl (fun j u hj => Ye hR4 (hcell2 j u hj)))) ?_
 refine Ra call105 (QdV h.all _ (hr2.mono hR4) (fun e he => (hh.all e he).1) hh.alln) ?_
 rintro r R5 L' hR5 ⟨⟨vm, rfl, hvm⟩, rfl⟩
 try simp only [cB]
 refine Pm ?_
 refine Pa (Qq rfl rfl) ?_
 refine Pa (Qq rfl rfl) (Ps (Ps (Qe (hK9 _ _ _ (Qd fun K10 hK10 => ?_)))))
 have hvmo := hvm.one
 have hR45 := Hp.le_trans hR4 hR5
 refine Xd (L := []) [0, 1, 2, 3, 4, 5, 6, 7, 8, 9, 10, 11, 12, 13, 14, 15, 16, 17, 18, 19, 20, 21, 22, 23, 24, 25, 26, 27, 28, 29, 30] [31, 32, 33, 34, 35, 36, 37, 38, 39, 40, 41, 42, 43] [44, 45, 46] _ sb_ (by kernel_rfl) (by kernel_rfl) (by kernel_rfl) rfl ?_
 refine Wa rfl (fun R1 hR1 G => (Qg rfl)) ?_
 refine Wa rfl (fun R1 hR1 G => (Qg rfl)) ?_
 refine Wa rfl (fun R1 hR1 G => (Qg rfl)) ?_
 refine Wa rfl (fun R1 hR1 G => (Qg rfl)) ?_
 refine Wa rfl (fun R1 hR1 G => (Qg rfl)) ?_
 refine Wa rfl (fun R1 hR1 G => (Qg rfl)) ?_
 refine Wa rfl (fun R1 hR1 G => (Qg rfl)) ?_
 refine Wa rfl (fun R1 hR1 G => (Qy underlying148 sizeOf150 rfl rfl om_)) ?_
 refine Wa rfl (fun R1 hR1 G => (Ga underlying150 sizeOf36)) ?_
 refine Wa rfl (fun R1 hR1 G => (Xw o36 rfl (Ye (Hp.le_trans hR45 hR1) hn1))) ?_
 refine Wa rfl (fun R1 hR1 G => (Qg rfl)) ?_
 refine Wa rfl (fun R1 hR1 G => (Qy underlying148 sizeOf150 rfl rfl om_)) ?_
 refine Wa rfl (fun R1 hR1 G => (Ga underlying150 sizeOf36)) ?_
 refine Wa rfl (fun R1 hR1 G => (Xw o36 rfl (Ye (Hp.le_trans hR45 hR1) hn2))) ?_
 refine Wa rfl (fun R1 hR1 G => (Xp underlying36 underlying3 rfl (by (simp only [IntKind.min, IntKind.max, IntKind.signed, IntKind.bits, Bool.false_eq_true, ite_false, ite_true]; omega)))) ?_
 refine Wa rfl (fun R1 hR1 G => (Yld.to (YN rfl rfl (by omega)) (u := .int .i64 h.vote) (by rw [show h.vote + 1 - 1 = h.vote by omega]))) ?_
 refine Wa rfl (fun R1 hR1 G => (Qg rfl)) ?_
 refine Wa rfl (fun R1 hR1 G => (Qy underlying148 sizeOf150 rfl rfl om_)) ?_
 refine Wa rfl (fun R1 hR1 G => (Ga underlying150 sizeOf36)) ?_
 refine Wa rfl (fun R1 hR1 G => (Xw o36 rfl (Ye (Hp.le_trans hR45 hR1) hn3))) ?_
 refine Wa rfl (fun R1 hR1 G => (Qg rfl)) ?_
 refine Wa rfl (fun R1 hR1 G => (Qy underlying148 sizeOf150 rfl rfl om_)) ?_
 refine Wa rfl (fun R1 hR1 G => (Ga underlying150 sizeOf36)) ?_
 refine Wa rfl (fun R1 hR1 G => (Xw o36 rfl (Ye (Hp.le_trans hR45 hR1) hn4))) ?_
 refine Wa rfl (fun R1 hR1 G => (Qg rfl)) ?_
 refine Wa rfl (fun R1 hR1 G => (Qy underlying148 sizeOf150 rfl rfl om_)) ?_
 refine Wa rfl (fun R1 hR1 G => (Ga underlying150 sizeOf9)) ?_
 refine Wa rfl (fun R1 hR1 G => (Xw o9 rfl (Ye (Hp.le_trans hR45 hR1) hs5))) ?_
 refine Wa rfl (fun R1 hR1 G => (Qg rfl)) ?_
 refine Wa rfl (fun R1 hR1 G => (Qf rfl)) ?_
 refine Wa rfl (fun R1 hR1 G => (Ga underlying111 sizeOf36)) ?_
 refine Xc ?_
 refine QH rfl ?_
 try simp only [cC]
 refine Sa o36 ?_
 refine QI le_ sb_ ?_
 refine QH rfl ?_
 try simp only [cC]
 refine Pa (Qf rfl) ?_
 refine QI le_ sb_ ?_
 refine QH rfl ?_
 try simp only [cC]
 refine Pa (Ga underlying111 sizeOf3) ?_
 refine QI le_ sb_ ?_
 refine QH rfl ?_
 try simp only [cC]
 refine Sa o3 ?_
 refine QI le_ sb_ ?_
 refine QH rfl ?_
 try simp only [cC]
 refine Pa (Qf rfl) ?_
 refine QI le_ sb_ ?_
 refine QH rfl ?_
 try simp only [cC]
 refine Pa (Ga underlying111 sizeOf36) ?_
 refine QI le_ sb_ ?_
 refine QH rfl ?_
 try simp only [cC]
 refine Sa o36 ?_
 refine QI le_ sb_ ?_
 refine QH rfl ?_
 try simp only [cC]
 refine Pa (Qf rfl) ?_
 refine QI le_ sb_ ?_
 refine QH rfl ?_
 try simp only [cC]
 refine Pa (Ga underlying111 sizeOf36) ?_
 refine QI le_ sb_ ?_
 refine QH rfl ?_
 try simp only [cC]
 refine Sa o36 ?_
 refine QI le_ sb_ ?_
 refine QH rfl ?_
 try simp only [cC]
 refine Pa (Qf rfl) ?_
 refine QI le_ sb_ ?_
 refine QH rfl ?_
 try simp only [cC]
 refine Pa (Ga underlying111 sizeOf9) ?_
 refine QI le_ sb_ ?_
 refine QH rfl ?_
 try simp only [cC]
 refine Sa o9 ?_
 refine QI le_ sb_ ?_
 refine Xe ?_
 try simp only [cC]
 refine Pa (Qf rfl) ?_
 refine Pa (Ga underlying111 sizeOf76) ?_
 refine Sa o76 ?_
 refine Qe (hK10 _ _ _ ?_)
 refine Ql (eL 9 rfl eN) ?_
 refine Qd fun K11 hK11 => Qc (Pm (Ps (Qe (hK11 _ _ _ (Qi (hret _ _ _ ?_))))))
 refine Ea results83 (.cons (Qh rfl) .nil) [lgB b d vm (g.play (.all h))] (by exact Hp.le_trans hR4 hR5) ?_
 exact ⟨rfl, vm, hvm, rfl⟩
theorem QjS {R : Hp} (b : Nat) (d : Option Addr) (va : Value) (g : LG) (r : Rec) (hg : g.ok) (hm : r.may g) (hva : FrX entE R g.all va) (cx : List Value) (hx : RepN R r.nd cx) :
  Tri prog 83 [.pointer (some ⟨b, 0, none⟩), .agg ⟨cx⟩] R [lgB b d va g] (fun x R' L' => x = .bool true ∧ ∃ va', FrX entE R' (g.play r).all va' ∧ L' = [lgB b d va' (g.play r)]) := by
 cases r with
 | term t v => exact Tri.mono (QeT b d va g t v hm cx hx) (fun _ _ _ hR h => ⟨h.1, va, hva.mono hR, h.2⟩) (fun _ _ _ _ h => h)
 | add i m => exact QfY b d va g i m hg hm hva cx hx
 | all h => exact QfX b d va g h hm hva.one cx hx
theorem QhE (A B s : Nat) (hA : A < 2 ^ s) (h : A + B * 2 ^ s < 9223372036854775808) : qu .i64 ((B * 2 ^ s : Nat) : Int) ((A : Nat) : Int) = ((A + B * 2 ^ s : Nat) : Int) := by
 rw [← QiR A B s hA h]
 unfold qu
 rw [BitVec.or_comm]
theorem Qnu (l : Bs) : qu .i64 (qu .i64 (qu .i64 (IntKind.i64.wrap (XB l 0 * 2 ^ min (24 : Int).toNat IntKind.i64.bits)) (IntKind.i64.wrap (XB l 1 * 2 ^ min (16 : Int).toNat IntKind.i64.bits))) (IntKind.i64.wrap (XB l 2 * 2 ^ min (8 : Int).toNat IntKind.i64.bits))) (XB l 3) = ((yl l : Nat) : Int) := by
 have e : ∀ i : Nat, XB l (i : Int) = (((l.getD i 0).toNat : Nat) : Int) := fun i => rfl
 have b : ∀ i : Nat, (l.getD i 0).toNat < 256 := fun i => (l.getD i 0).toNat_lt
 have b0 := b 0
 have b1 := b 1
 have b2 := b 2
 have b3 := b 3
 rw [show XB l 0 = (((l.getD 0 0).toNat : Nat) : Int) from rfl, show XB l 1 = (((l.getD 1 0).toNat : Nat) : Int) from rfl, show XB l 2 = (((l.getD 2 0).toNat : Nat) : Int) from rfl, show XB l 3 = (((l.getD 3 0).toNat : Nat) : Int) from rfl]
 unfold yl
 generalize (l.getD 0 0).toNat = x0 at *
 generalize (l.getD 1 0).toNat = x1 at *
 generalize (l.getD 2 0).toNat = x2 at *
 generalize (l.getD 3 0).toNat = x3 at *
 rw [Qbb x0 24 24 rfl (by decide) (by omega), Qbb x1 16 16 rfl (by decide) (by omega), Qbb x2 8 8 rfl (by decide) (by omega)]
 rw [QhE (x1 * 2 ^ 16) x0 24 (by omega) (by omega)]
 rw [show x1 * 2 ^ 16 + x0 * 2 ^ 24 = (x1 + x0 * 256) * 2 ^ 16 by omega, QhE (x2 * 2 ^ 8) (x1 + x0 * 256) 16 (by omega) (by omega)]
 rw [show x2 * 2 ^ 8 + (x1 + x0 * 256) * 2 ^ 16 = (x2 + (x1 + x0 * 256) * 256) * 2 ^ 8 by omega, QhE x3 (x2 + (x1 + x0 * 256) * 256) 8 (by omega) (by omega)]
 congr 1
 omega
def DK.open (D : DK) (rs : List Rec) (tail : Bs) : Int × DK := if D.down = true then (3, D) else if tail = [] then (0, D) else D.swap (QZ rs)
theorem Zx (r : Rec) (l : List Rec) : QZ (r :: l) = r.bytes ++ QZ l := by simp [QZ]
theorem QdF {g h : LG} (p : Plays g [] h) : g = h := by cases p; rfl
theorem QeS {rs : List Rec} {rest tail : Bs} {g h : LG} (hp : Plays g rs h) (hr : rest = QZ rs ++ tail) (ht : rest.length < 4 ∨ yl rest > rest.length - 4) : rs = [] := by
 cases hp with
 | nil => rfl
 | @cons _ _ r l h1 h2 h3 h4 =>
  exfalso
  have e : rest = be4 (wr r.nd).length ++ (wr r.nd ++ (QZ l ++ tail)) := by rw [hr, Zx, Rec.bytes]; simp
  have e2 : yl rest = (wr r.nd).length := by rw [e, Qbo (by omega)]
  have e3 : rest.length = 4 + (wr r.nd).length + (QZ l ++ tail).length := by rw [e]; simp [Yy]; omega
  omega
theorem Qiz {rs : List Rec} {rest tail : Bs} {g h : LG} (hp : Plays g rs h) (hr : rest = QZ rs ++ tail) (ht : ZL tail) (h4 : 4 ≤ rest.length) (hn : yl rest ≤ rest.length - 4) :
  ∃ r rs3, rs = r :: rs3 ∧ g.ok ∧ r.may g ∧ (wr r.nd).length ≤ 16777216 ∧ Plays (g.play r) rs3 h := by
 cases hp with
 | nil _ => exact absurd (show ZL rest by rw [hr]; exact ht) (by unfold ZL; omega)
 | cons h1 h2 h3 h4 => exact ⟨_, _, rfl, h1, h2, h3, h4⟩
theorem Qm7 {R : Hp} (bd : Nat) (u : Value) (D : DK) (m : Nat) (rs : List Rec) (tail : Bs) (h : LG) (hD : D.ok m) (hm : m ≤ 900000000) (hb : D.b = QZ rs ++ tail) (ht : ZL tail) (hp : Plays LG.new rs h) :
   Tri prog 56 [.pointer (some ⟨bd, 0, none⟩)] R [dkB bd u D, dkS u D] (fun x R' L' => ∃ p u', x = QF [p, .int .i64 (D.open rs tail).1] ∧
     ((p = .pointer none ∧ (D.open rs tail).1 ≠ 0 ∧ L' = [dkB bd u' (D.open rs tail).2, dkS u' (D.open rs tail).2]) ∨
      (∃ b va, p = .pointer (some ⟨b, 0, none⟩) ∧ (D.open rs tail).1 = 0 ∧ FrX entE R' h.all va ∧ L' = [lgB b (some ⟨bd, 0, none⟩) va h, dkB bd u' (D.open rs tail).2, dkS u' (D.open rs tail).2]))) := by
 have hbl := hD.2.1
 obtain ⟨B, hB⟩ : ∃ B, B = D.b := ⟨_, rfl⟩
 have hBl : B.length ≤ 900000000 := by rw [hB]; omega
 refine Qn func56 rfl ntmps56 rfl (fun σ F Q hret hend hpan => ?_)
 try simp only [cB]
 refine Qd fun K1 hK1 => Qc (Ps (Ps (Qe (hK1 _ _ _ (Qd fun K2 hK2 => Qc ?_)))))
 refine Pm ?_
 refine Pa (Ca call81 (Qm3 bd u D)) (Pm ?_)
 refine Pa (Qq rfl rfl) ?_
 refine Pa (Qq rfl rfl) (Ps (Ps (Qe (hK2 _ _ _ (Qd fun K3 hK3 => Qd fun K4 hK4 => Qc ?_)))))
 refine Pm ?_
 refine Pa (XU rfl rfl) (Qe (hK4 _ _ _ ?_))
 refine Qm rfl (fun hc19 => ?_) (fun hc19 => ?_)
 have f0 : D.down = true := by cases hdn : D.down with | true => rfl | false => simp [hdn] at hc19
 have ho : D.open rs tail = (3, D) := by unfold DK.open; rw [if_pos f0]
 simp only [f0, ite_true]
 refine Qd fun K6 hK6 => Qc (Pm (Ps (Ps (Qe (hK6 _ _ _ (Qi (hret _ _ _ ?_)))))))
 refine Ea results56 (.cons (Qh rfl) (.cons (Qh rfl) .nil)) [dkB bd u D, dkS u D] (by first | exact Hp.le_refl _ | exact hR3) ?_
 rw [ho]; exact ⟨_, u, rfl, .inl ⟨rfl, (by decide : (3 : Int) ≠ 0), rfl⟩⟩
 have f0 : D.down = false := by cases hdn : D.down with | false => rfl | true => simp [hdn] at hc19
 simp only [f0, Bool.false_eq_true, ite_false]
 rw [← hB]
 refine Qj (hK3 _ _ _ (Qd fun K7 hK7 => Qc (Pm ?_)))
 refine Pa (QV (cells := [_, _, _, _, _, _, _, _]) [(0, 1), (1, 1), (2, 1), (3, 1), (4, 1), (5, 1), (6, 1), (7, 1)] underlying111 zeroValue111 (fun _ => rfl) rfl rfl) ?_
 refine Xa (wn0 rfl) rfl rfl rfl (fun bl => ?_)
 refine Ps (Qe (hK7 _ _ _ (Qd fun K8 hK8 => Qc ?_)))
 refine Ps (Qe (hK8 _ _ _ (Qd fun K9 hK9 => ?_)))
 have hJ15 : ∀ (x2 : Value × Hp × Nat), R.le x2.2.1 ∧ FrX entE x2.2.1 h.all x2.1 ∧ x2.2.2 + tail.length = B.length → EJ ⟨prog, 88, σ⟩ K9 [(0, .pointer (some ⟨bd, 0, none⟩)), (4, .string (str B)), (6, .pointer (some ⟨bl, 0, none⟩)), (7, .int .i64 (x2.2.2 : Int))] x2.2.1 (lgB bl (some ⟨bd, 0, none⟩) x2.1 h :: dkB bd u D :: dkS u D :: F) := by
   rintro ⟨va, R3, good⟩ ⟨hR3, hva, hgood⟩
   try dsimp only
   dsimp only at hR3 hva hgood
   refine hK9 _ _ _ (Qd fun K10 hK10 => Qd fun K11 hK11 => Qc (Pm (Pm ?_)))
   refine Pa (Yv underlying9 rfl) ?_
   refine Pa (QO rfl rfl) (Qe (hK11 _ _ _ ?_))
   refine Ql (eL 0 rfl (eL 4 rfl (eL 6 rfl (eL 7 rfl (eL 78 rfl eN))))) ?_
   refine Qm rfl (fun hc78 => ?_) (fun hc78 => ?_)
   have f5 : ¬ tail = [] := by rintro rfl; (try simp at hc78); simp at hgood; omega
   have f6 : B.take good = QZ rs := by rw [hB, hb] at hgood ⊢; rw [List.length_append] at hgood; rw [List.take_append_of_le_length (by omega), List.take_of_length_le (by omega)]
   have f7 : D.open rs tail = D.swap (QZ rs) := by unfold DK.open; rw [if_neg (by simp [f0]), if_neg f5]
   have f8 : (QZ rs).length ≤ 900000000 := by rw [← f6, List.length_take]; omega
   refine Qd fun K13 hK13 => Qc (Pm (Pm (Pm ?_)))
   refine Pa ((Yld.to (u := .string (str (QZ rs))) (Qav underlying9 rfl rfl (by omega)) (by rw [← f6]; rfl))) ?_
   refine Ra call84 (Qil bd u D m hD (QZ rs) (by omega)) ?_
   rintro x R6 L' hR6 ⟨rfl, rfl, u2, rfl⟩
   try simp only [cB]
   refine Ps (Qe (hK13 _ _ _ (Qd fun K14 hK14 => Qc ?_)))
   refine Pm ?_
   refine Pa (XU rfl rfl) (Qe (hK14 _ _ _ ?_))
   refine Qm rfl (fun hc85 => ?_) (fun hc85 => ?_)
   have f9 : ¬ (D.swap (QZ rs)).1 = 0 := by simpa using hc85
   refine Qd fun K16 hK16 => Qc (Pm (Ps (Ps (Qe (hK16 _ _ _ (Qi (hret _ _ _ ?_)))))))
   refine Ea results56 (.cons (Qh rfl) (.cons (Qh rfl) .nil)) [dkB bd u2 (D.swap (QZ rs)).2, dkS u2 (D.swap (QZ rs)).2] (by first | exact Hp.le_refl _ | exact hR3) ?_
   rw [f7]; exact ⟨_, u2, rfl, .inl ⟨rfl, f9, rfl⟩⟩
   have f9 : (D.swap (QZ rs)).1 = 0 := by simpa using hc85
   refine Qj (hK10 _ _ _ (Qd fun K17 hK17 => Qc (Pm (Ps (Ps (Qe (hK17 _ _ _ (Qi (hret _ _ _ ?_)))))))))
   refine Ea results56 (.cons (Qh rfl) (.cons (Qh rfl) .nil)) [lgB bl (some ⟨bd, 0, none⟩) va h, dkB bd u2 (D.swap (QZ rs)).2, dkS u2 (D.swap (QZ rs)).2] (by first | exact Hp.le_refl _ | exact hR3) ?_
   rw [f7]; refine ⟨_, u2, by rw [f9], .inr ⟨bl, va, rfl, f9, hva, rfl⟩⟩
   have f5 : tail = [] := by (try simp at hc78); exact List.eq_nil_of_length_eq_zero (by omega)
   have f7 : D.open rs tail = (0, D) := by unfold DK.open; rw [if_neg (by simp [f0]), if_pos f5]
   refine Qj (hK10 _ _ _ (Qd fun K18 hK18 => Qc (Pm (Ps (Ps (Qe (hK18 _ _ _ (Qi (hret _ _ _ ?_)))))))))
   refine Ea results56 (.cons (Qh rfl) (.cons (Qh rfl) .nil)) [lgB bl (some ⟨bd, 0, none⟩) va h, dkB bd u D, dkS u D] (by first | exact Hp.le_refl _ | exact hR3) ?_
   rw [f7]; exact ⟨_, u, rfl, .inr ⟨bl, va, rfl, rfl, hva, rfl⟩⟩
 refine Qd fun K19 hK19 => Qc (Pm (Ps (Qe (hK19 _ _ _ (Qp ?_)))))
 refine Ql (E' := (fun (x1 : LG × List Rec × Value × Hp × Bs × Nat) => [(0, .pointer (some ⟨bd, 0, none⟩)), (4, .string (str B)), (6, .pointer (some ⟨bl, 0, none⟩)), (7, .int .i64 (x1.2.2.2.2.2 : Int)), (8, .string (str x1.2.2.2.2.1))]) (LG.new, rs, .slice none 0 0, R, B, 0)) (eC rfl (eC rfl (eC rfl (eC rfl (eC rfl eN))))) ?_
 refine Xi (M := (fun (x1 : LG × List Rec × Value × Hp × Bs × Nat) => lgB bl (some ⟨bd, 0, none⟩) x1.2.2.1 x1.1 :: dkB bd u D :: dkS u D :: F) (LG.new, rs, .slice none 0 0, R, B, 0)) sb_ ?_
 refine QY (fun (x1 : LG × List Rec × Value × Hp × Bs × Nat) => [(0, .pointer (some ⟨bd, 0, none⟩)), (4, .string (str B)), (6, .pointer (some ⟨bl, 0, none⟩)), (7, .int .i64 (x1.2.2.2.2.2 : Int)), (8, .string (str x1.2.2.2.2.1))]) (fun (x1 : LG × List Rec × Value × Hp × Bs × Nat) => x1.2.2.2.1) (fun (x1 : LG × List Rec × Value × Hp × Bs × Nat) => lgB bl (some ⟨bd, 0, none⟩) x1.2.2.1 x1.1 :: dkB bd u D :: dkS u D :: F) (fun (x1 : LG × List Rec × Value × Hp × Bs × Nat) => Plays x1.1 x1.2.1 h ∧ x1.2.2.2.2.1 = QZ x1.2.1 ++ tail ∧ FrX entE x1.2.2.2.1 x1.1.all x1.2.2.1 ∧ R.le x1.2.2.2.1 ∧ x1.2.2.2.2.2 + x1.2.2.2.2.1.length = B.length) (fun (x1 : LG × List Rec × Value × Hp × Bs × Nat) => x1.2.2.2.2.1.length) (LG.new, rs, .slice none 0 0, R, B, 0) (⟨hp, by rw [hB]; exact hb, FrX.nil, Hp.le_refl _, by simp⟩) ?_
 rintro ⟨g, rs2, va, R3, rest, good⟩ ⟨hpl, hrest, hva, hR3, hgood⟩
 try dsimp only
 dsimp only at hpl hrest hva hR3 hgood
 refine Qd fun K20 hK20 => Qd fun K21 hK21 => Qc (Pm ?_)
 refine Pa (Yv underlying9 rfl) ?_
 refine Pa (YX rfl rfl) (Qe (hK21 _ _ _ ?_))
 refine Qm rfl (fun hc27 => ?_) (fun hc27 => ?_)
 try simp only [dx] at hc27
 refine Qj (hK20 _ _ _ ?_)
 refine Ql (eL 0 rfl (eL 4 rfl (eL 6 rfl (eL 7 rfl (eL 8 rfl eN))))) ?_
 refine Qp (Qd fun K23 hK23 => ?_)
 refine Xr (by kernel_rfl) (by kernel_rfl) ?_
 have hrl : 4 ≤ rest.length := by (try simp at hc27); omega
 refine Qa (Qg rfl) ?_
 refine Qa ((Yx underlying9 rfl rfl (by constructor; decide; omega))) ?_
 refine Qa ((Xp underlying5 underlying3 rfl (by have := qU rest 0; (simp only [IntKind.min, IntKind.max, IntKind.signed, IntKind.bits, Bool.false_eq_true, ite_false, ite_true]; omega)))) ?_
 refine Qa ((Qce rfl rfl (by decide))) ?_
 refine Qa (Qg rfl) ?_
 refine Qa ((Yx underlying9 rfl rfl (by constructor; decide; omega))) ?_
 refine Qa ((Xp underlying5 underlying3 rfl (by have := qU rest 1; (simp only [IntKind.min, IntKind.max, IntKind.signed, IntKind.bits, Bool.false_eq_true, ite_false, ite_true]; omega)))) ?_
 refine Qa ((Qce rfl rfl (by decide))) ?_
 refine Qa (QcT rfl rfl) ?_
 refine Qa (Qg rfl) ?_
 refine Qa ((Yx underlying9 rfl rfl (by constructor; decide; omega))) ?_
 refine Qa ((Xp underlying5 underlying3 rfl (by have := qU rest 2; (simp only [IntKind.min, IntKind.max, IntKind.signed, IntKind.bits, Bool.false_eq_true, ite_false, ite_true]; omega)))) ?_
 refine Qa ((Qce rfl rfl (by decide))) ?_
 refine Qa (QcT rfl rfl) ?_
 refine Qa (Qg rfl) ?_
 refine Qa ((Yx underlying9 rfl rfl (by constructor; decide; omega))) ?_
 refine Qa ((Xp underlying5 underlying3 rfl (by have := qU rest 3; (simp only [IntKind.min, IntKind.max, IntKind.signed, IntKind.bits, Bool.false_eq_true, ite_false, ite_true]; omega)))) ?_
 refine Qa ((Yld.to (QcT rfl rfl) (u := .int .i64 ((yl rest : Nat) : Int)) (by rw [Qnu]))) ?_
 refine Qa (Xj rfl) ?_
 refine Xb ?_
 refine hK23 _ _ _ ?_
 refine Ql (eL 0 rfl (eL 4 rfl (eL 6 rfl (eL 7 rfl (eL 8 rfl (eL 9 rfl eN)))))) ?_
 refine Qd fun K24 hK24 => Qd fun K25 hK25 => Qc (Pm (Pm ?_))
 refine Pa (Yv underlying9 rfl) ?_
 refine Pa (YN rfl rfl om_) ?_
 refine Pa (Xs rfl rfl) (Qe (hK25 _ _ _ ?_))
 refine Qm rfl (fun hc50 => ?_) (fun hc50 => ?_)
 obtain rfl : rs2 = [] := QeS hpl hrest (.inr (by (try simp at hc50); omega))
 obtain rfl := QdF hpl
 have hfin : R.le R3 ∧ FrX entE R3 g.all va ∧ good + tail.length = B.length := ⟨hR3, hva, by rw [hrest] at hgood; simpa [QZ] using hgood⟩
 refine QL ?_
 refine QG hJ15 ((va, R3, good)) (hfin) (eC rfl (eC rfl (eC rfl (eC rfl eN)))) rfl sb_
 have hn : yl rest ≤ rest.length - 4 := by (try simp at hc50); omega
 obtain ⟨r, rs3, rfl, h1, h2, h3, h4⟩ := Qiz hpl hrest ht hrl hn
 have e1 : rest = be4 (wr r.nd).length ++ (wr r.nd ++ (QZ rs3 ++ tail)) := by rw [hrest, Zx, Rec.bytes]; simp
 have e2 : yl rest = (wr r.nd).length := by rw [e1, Qbo (by omega)]
 have e4 : (rest.drop 4).take (wr r.nd).length = wr r.nd := by rw [e1]; simp [be4]
 have hdrop : rest.drop (4 + (wr r.nd).length) = QZ rs3 ++ tail := by rw [← List.drop_drop, e1]; simp [be4]
 rw [e2]
 refine Qj (hK24 _ _ _ (Qd fun K27 hK27 => Qc (Pm (Pm ?_))))
 refine Pa ((Qt rfl rfl (by omega))) ?_
 refine Pa ((Yld.to (u := .string (str (wr r.nd))) (Qdr underlying9 rfl rfl rfl (by omega)) (by congr 2; refine Eq.trans ?_ e4; congr 1; omega))) ?_
 refine Ra call82 (Qm2 (wr r.nd) (by unfold big; omega)) ?_
 rintro x R4 L' hR4 ⟨cy, rfl, hrep, rfl⟩
 rw [Rec.read h2 h1 h3] at hrep ⊢
 obtain ⟨k0, n0, s0, l0, q0, cap0, _, rfl, _, _⟩ := hrep.inv
 replace hrep : RepN R4 r.nd _ := hrep
 try simp only [cB]
 refine Pm ?_
 refine Pa (Qq rfl rfl) ?_
 refine Pa (Qq rfl rfl) ?_
 refine QA (wn0 rfl) rfl zeroValue150 rfl (fun b10 => ?_)
 refine Sm (vs := [.int .i64 k0, .int .u64 ((n0 : Nat) : Int), .string (str s0), .slice q0 l0.length cap0]) Qw (ZU hrep) ?_
 refine Ps (Qe (hK27 _ _ _ (Qd fun K28 hK28 => Qd fun K29 hK29 => Qc ?_)))
 refine Pm ?_
 refine Pa (Yq rfl) (Pm ?_)
 refine Pb (Qg rfl) ?_
 refine Pb (Lb Qw) ?_
 refine XE (wn1 rfl rfl rfl rfl) rfl call83 rfl (QjS bl (some ⟨bd, 0, none⟩) va g r h1 h2 (hva.mono hR4) _ hrep) sp_ (fun _ _ _ _ h => h.elim) ?_
 rintro x R5 L' hR5 ⟨rfl, va4, hva4, rfl⟩
 try simp only [cB]
 refine Pb (Yq rfl) ?_
 refine Pa (Qo rfl rfl) (Qe (hK29 _ _ _ ?_))
 refine Ql (eL 0 rfl (eL 4 rfl (eL 6 rfl (eL 7 rfl (eL 8 rfl (eL 9 rfl (eL 66 rfl eN))))))) ?_
 refine Qs rfl (Qj (hK28 _ _ _ (Qd fun K30 hK30 => Qc (Pm (Pm ?_)))))
 refine Pa (Qt rfl rfl om_) ?_
 refine Pa ((Yld.to (u := .string (str (rest.drop (4 + (wr r.nd).length)))) (Qau underlying9 rfl rfl (by omega)) (by congr 2))) ?_
 refine Ps (Qe (hK30 _ _ _ (Qc (Pm (Pm ?_)))))
 refine Pa (Qt rfl rfl om_) ?_
 refine Pa (Qt rfl rfl om_) (Ps (Qe ?_))
 refine Xl (q' := QS _ _ _ _ _ _ _) rfl ?_
 refine QC ((g.play r, rs3, va4, R5, rest.drop (4 + (wr r.nd).length), good + (4 + (wr r.nd).length))) (⟨h4, hdrop, hva4, Hp.le_trans hR3 (Hp.le_trans hR4 hR5), by dsimp only; rw [List.length_drop]; omega⟩) (by dsimp only; rw [List.length_drop]; omega) (eC rfl (eC rfl (eC rfl (eC rfl (eC rfl eN))))) rfl sb_
 obtain rfl : rs2 = [] := QeS hpl hrest (.inl (by (try simp at hc27); omega))
 obtain rfl := QdF hpl
 have hfin : R.le R3 ∧ FrX entE R3 g.all va ∧ good + tail.length = B.length := ⟨hR3, hva, by rw [hrest] at hgood; simpa [QZ] using hgood⟩
 refine QL ?_
 refine QG hJ15 ((va, R3, good)) (hfin) (eC rfl (eC rfl (eC rfl (eC rfl eN)))) rfl sb_
theorem LG.at_i (g : LG) {i : Nat} {e : Ent} (h : g.all[i]? = some e) : g.at (g.base + 1 + i) = some e := by
 have hi : i < g.all.length := (List.getElem?_eq_some_iff.1 h).1
 unfold LG.at LG.last
 rw [if_pos (by omega), show (g.base + 1 + (i : Int) - g.base - 1).toNat = i by omega, h]
def LD (n : Nat) (g : LG) (D : DK) : Prop := D.down = false ∧ D.bound = false ∧ D.sure = D.b.length ∧ (-9223372036854775808 ≤ D.fuel ∧ D.fuel ≤ 9223372036854775807) ∧ g.down = false ∧ D.b.length ≤ n ∧ ∃ rs, D.b = QZ rs ∧ Plays LG.new rs g
theorem zV (g : LG) (r : Rec) : (g.play r).down = g.down := by cases r <;> rfl
theorem LD.put {n : Nat} {g : LG} {D : DK} (h : LD n g D) {r : Rec} {k : Nat} (hm : r.may g) (hl : (wr r.nd).length ≤ k) (hk : k ≤ 16777216) (ho : (g.play r).ok) : (D.put r.bytes).1 = 0 ∧ LD (n + 4 + k) (g.play r) (D.put r.bytes).2 := by
 obtain ⟨h1, h2, h3, h4, h5, h6, rs, h7, h8⟩ := h
 have e1 : D.step = (true, D) := by unfold DK.step; simp [h1, h2]
 have e2 : D.append r.bytes = (0, { D with b := D.b ++ r.bytes }) := by unfold DK.append; rw [e1]; rfl
 have e3 : D.put r.bytes = (0, { D with b := D.b ++ r.bytes, sure := (D.b ++ r.bytes).length }) := by
  unfold DK.put
  rw [e2]
  simp only [ite_true]
  unfold DK.sync
  have : DK.step { D with b := D.b ++ r.bytes } = (true, { D with b := D.b ++ r.bytes }) := by unfold DK.step; simp [h1, h2]
  rw [this]; rfl
 rw [e3]
 refine ⟨rfl, h1, h2, rfl, h4, by rw [zV]; exact h5, ?_, rs ++ [r], by rw [jW, ← h7], h8.snoc hm (by omega) ho⟩
 show (D.b ++ r.bytes).length ≤ _
 rw [List.length_append, Rec.bytes, List.length_append, Yy]; omega
def LG.comp (g : LG) (i : Int) (s : Bs) : LG := { g with baseT := (g.termAt i).getD 0, all := g.all.drop (i - g.base).toNat, base := i, state := s }
def LG.base0 (g : LG) (i t : Int) (s : Bs) : LG := { g with all := [], base := i, baseT := t, state := s }
def LG.swapD (g : LG) (D : DK) (to : LG) : Int × LG × DK :=
 if (D.swap (Rec.all to).bytes).1 = 0 then (0, to, (D.swap (Rec.all to).bytes).2) else ((D.swap (Rec.all to).bytes).1, { g with down := true }, (D.swap (Rec.all to).bytes).2)
def LG.compD (g : LG) (D : DK) (i : Int) (s : Bs) : Int × LG × DK :=
 if (g.down || D.down) = true then (3, g, D) else if i < g.base ∨ i > g.last then (1, g, D) else g.swapD D (g.comp i s)
def LG.instD (g : LG) (D : DK) (i t : Int) (s : Bs) : Int × LG × DK :=
 if (g.down || D.down) = true then (3, g, D) else if i < g.base ∨ (i = g.base ∧ ¬ t = g.baseT) then (1, g, D)
 else if g.termAt i = some t then g.compD D i s else g.swapD D (g.base0 i t s)
theorem Qoc (R : Hp) : Kids R [] [] := ⟨rfl, fun i x cs h _ => by simp at h⟩
theorem Qag {R : Hp} {x : Nd} {c : List Value} {ks : List Nd} {css : List (List Value)} (h : RepN R x c) (k : Kids R ks css) : Kids R (x :: ks) (c :: css) := by
 refine ⟨by simp [k.1], fun i y cs h1 h2 => ?_⟩
 cases i with
 | zero => cases h1; cases h2; exact h
 | succ i => exact k.2 i y cs (by simpa using h1) (by simpa using h2)
theorem Qdb {d : Option Addr} {v : Value} (g : LG) (hv : v.oneCell' = true) : ∀ u ∈ lgC d v g, u.oneCell' = true := by
 intro u hu
 simp only [lgC, List.mem_cons, List.not_mem_nil, or_false] at hu
 rcases hu with rfl | rfl | rfl | rfl | rfl | rfl | rfl | rfl <;> first | rfl | assumption
theorem Qfc {R : Hp} (b bd : Nat) (va u vt : Value) (g to : LG) (D : DK) (n : Nat) (hva : va.oneCell' = true) (ht : to.ok) (hvt : FrX entE R to.all vt) (hl : (wr (Rec.all to).nd).length ≤ 16777216) (hD : D.ok n) :
  Tri prog 102 [.pointer (some ⟨b, 0, none⟩), .agg ⟨lgC (some ⟨bd, 0, none⟩) vt to⟩] R [lgB b (some ⟨bd, 0, none⟩) va g, dkB bd u D, dkS u D]
   (fun x R' L' => x = .int .i64 (g.swapD D to).1 ∧ ∃ u', L' = [lgB b (some ⟨bd, 0, none⟩) (if (g.swapD D to).1 = 0 then vt else va) (g.swapD D to).2.1, dkB bd u' (g.swapD D to).2.2, dkS u' (g.swapD D to).2.2]) := by
 have hb := ht.base
 have hv := ht.vote
 have hst := ht.state
 have hu2 : QM 2 := by unfold QM; omega
 have hv1 : QM (to.vote + 1) := by unfold QM; omega
 have hbb : QM to.base := by unfold QM; omega
 have hmay : (Rec.all to).may g := ht
 have hok : OkN (Rec.all to).nd := .mk (by decide) (Rec.kids_ok (g := LG.new) (r := .all to) ht LG.new_ok)
 have hbl : (Rec.all to).bytes.length ≤ 16777220 := by unfold Rec.bytes; simp [Yy]; omega
 have hvto := hvt.one
 obtain ⟨qt, ct, rfl, hq1, hq2⟩ := hvt.shape
 unfold lgB lgC
 refine Qn func102 rfl ntmps102 rfl (fun σ F Q hret hend hpan => ?_)
 try simp only [cB]
 refine Qd fun K1 hK1 => Qc ?_
 refine Xa (wn0 rfl) rfl rfl rfl (fun b3 => ?_)
 refine Ps (Qe (hK1 _ _ _ (Qd fun K2 hK2 => ?_)))
 refine Qmq (L := [blk b3 [.pointer (some ⟨bd, 0, none⟩), .bool to.down, .int .u64 to.term, .int .i64 to.vote, .int .u64 to.base, .int .u64 to.baseT, .string (str to.state), .slice qt to.all.length ct] 111]) [0, 1, 2, 3, 4, 5, 6, 7, 8, 9, 10, 11, 12, 13, 14, 15, 16, 17, 18, 19] [] [20, 21, 22, 23, 24, 25, 26, 27] _ sb_ (by kernel_rfl) (by kernel_rfl) ?_
 refine Wa rfl (fun R1 hR1 G => (Ca call95 (ZO _))) ?_
 refine Wa rfl (fun R1 hR1 G => (Ga underlying111 sizeOf36)) ?_
 refine Wa rfl (fun R1 hR1 G => (La o36)) ?_
 refine Wa rfl (fun R1 hR1 G => (Ca call95 (ZO _))) ?_
 refine Wa rfl (fun R1 hR1 G => (Ga underlying111 sizeOf3)) ?_
 refine Wa rfl (fun R1 hR1 G => (La o3)) ?_
 refine Wa rfl (fun R1 hR1 G => (Qt rfl rfl (by omega))) ?_
 refine Wa rfl (fun R1 hR1 G => (Xp underlying3 underlying36 rfl (by (simp only [IntKind.min, IntKind.max, IntKind.signed, IntKind.bits, Bool.false_eq_true, ite_false, ite_true]; omega)))) ?_
 refine Wa rfl (fun R1 hR1 G => (Ca call95 (ZO _))) ?_
 refine Wa rfl (fun R1 hR1 G => (Ga underlying111 sizeOf36)) ?_
 refine Wa rfl (fun R1 hR1 G => (La o36)) ?_
 refine Wa rfl (fun R1 hR1 G => (Ca call95 (ZO _))) ?_
 refine Wa rfl (fun R1 hR1 G => (Ga underlying111 sizeOf36)) ?_
 refine Wa rfl (fun R1 hR1 G => (La o36)) ?_
 refine Wa rfl (fun R1 hR1 G => (Ca call95 (ZO _))) ?_
 refine Wa rfl (fun R1 hR1 G => (Ga underlying111 sizeOf9)) ?_
 refine Wa rfl (fun R1 hR1 G => (La o9)) ?_
 refine Wa rfl (fun R1 hR1 G => (Ca call114 (Qe1 _))) ?_
 refine Wa rfl (fun R1 hR1 G => (Ga underlying111 sizeOf76)) ?_
 refine Wa rfl (fun R1 hR1 G => (La o76)) ?_
 refine Xc ?_
 refine Xe ?_
 try simp only [cC]
 refine ju (rs := [20]) (by kernel_rfl) (by decide) ⟨⟨_, rfl, ?_⟩, trivial⟩
 refine Ra call108 (QiZ to.all _ hvt ht.all ht.alln) ?_
 rintro r R2 L' hR2 ⟨⟨cy, rfl, hrep⟩, rfl⟩
 have hrep2 := hrep
 obtain ⟨k0, n0, s0, l0, q0, cap0, _, rfl, _, _⟩ := hrep2.inv
 try simp only [cB]
 refine Qbe ?_
 refine ju (rs := [21]) (by kernel_rfl) (by decide) ⟨⟨_, rfl, ?_⟩, trivial⟩
 refine Qz (sz := 4) (wn0 rfl) rfl underlying148 sizeOf150 zeroValue150 rfl rfl rfl (by decide) (by decide) (fun bk => ?_)
 refine Qbe ?_
 refine ju (rs := [22]) (by kernel_rfl) (by decide) ⟨⟨_, rfl, ?_⟩, trivial⟩
 refine Ra call111 (QeU (.slice (some ⟨bk, 0, none⟩) 7 7) (Rec.all to).kids [[.int .i64 0, .int .u64 2, .string (str []), .slice none 0 0], [.int .i64 0, .int .u64 to.term, .string (str []), .slice none 0 0], [.int .i64 0, .int .u64 (to.vote + 1), .string (str []), .slice none 0 0], [.int .i64 0, .int .u64 to.base, .string (str []), .slice none 0 0], [.int .i64 0, .int .u64 to.baseT, .string (str []), .slice none 0 0], [.int .i64 1, .int .u64 0, .string (str to.state), .slice none 0 0], [.int .i64 k0, .int .u64 n0, .string (str s0), .slice q0 l0.length cap0]] (Qag (ZG hu2) (Qag (ZG ht.term) (Qag (ZG hv1) (Qag (ZG hbb) (Qag (ZG ht.baseT) (Qag (Qgt (by unfold big; omega)) (Qag hrep (Qoc _)))))))) (by simp [Rec.kids]) hok (Rec.write _ hl) hl) ?_
 rintro x R3 L' hR3 ⟨rfl, rfl⟩
 rw [show be4 (wr (Nd.mk 2 0 [] (Rec.all to).kids)).length ++ wr (Nd.mk 2 0 [] (Rec.all to).kids) = (Rec.all to).bytes from rfl]
 try simp only [cB]
 refine Qbe ?_
 refine ju (rs := [23]) (by kernel_rfl) (by decide) ⟨⟨_, rfl, ?_⟩, trivial⟩
 refine Pm ?_
 refine Qbe ?_
 refine Qgl (i := 24) rfl rfl rfl (by kernel_rfl) (by kernel_rfl) (by kernel_rfl) (wn0 rfl) rfl (fun σ => (Qq rfl rfl)) ?_
 refine Qgl (i := 25) rfl rfl rfl (by kernel_rfl) (by kernel_rfl) (by kernel_rfl) (wn0 rfl) rfl (fun σ => (Qq rfl rfl)) ?_
 refine ju (rs := [26]) (by kernel_rfl) (by decide) ⟨⟨_, rfl, ?_⟩, trivial⟩
 refine Ps ?_
 refine Qbe ?_
 refine ju (rs := [27]) (by kernel_rfl) (by decide) ⟨⟨_, rfl, ?_⟩, trivial⟩
 refine Ps ?_
 refine Qbe ?_
 refine Qlf (by kernel_rfl) ?_
 refine hK2 _ _ _ ?_
 refine Ql (eL 0 rfl (eL 3 rfl (eL 5 rfl (eL 6 rfl eN)))) ?_
 refine Qd fun K3 hK3 => Qd fun K4 hK4 => Qc (Pm ?_)
 refine Pa (Yq rfl) (Qe (hK4 _ _ _ (Qs rfl (Qj (hK3 _ _ _ (Qd fun K5 hK5 => Qd fun K6 hK6 => Qc ?_))))))
 refine Pm ?_
 refine Pa (Qf rfl) ?_
 refine Pa (Ga underlying111 sizeOf83) ?_
 refine Pa (La o83) (Pm ?_)
 refine Ra call84 (Qil bd u D n hD (Rec.all to).bytes (by omega)) ?_
 rintro x R4 L' hR4 ⟨rfl, rfl, u2, rfl⟩
 try simp only [cB]
 refine Ps (Qe (hK6 _ _ _ (Qd fun K7 hK7 => Qc ?_)))
 refine Pm ?_
 refine Pa (XU rfl rfl) (Qe (hK7 _ _ _ ?_))
 refine Qm rfl (fun hc43 => ?_) (fun hc43 => ?_)
 have f2 : ¬ (D.swap (Rec.all to).bytes).1 = 0 := by simpa using hc43
 have f3 : g.swapD D to = ((D.swap (Rec.all to).bytes).1, { g with down := true }, (D.swap (Rec.all to).bytes).2) := by unfold LG.swapD; rw [if_neg f2]
 refine Qd fun K9 hK9 => Qc (Pm ?_)
 refine Pa (Qf rfl) ?_
 refine Pa (Ga underlying111 sizeOf4) ?_
 refine Sa o4 ?_
 refine Qe (hK9 _ _ _ (Qd fun K10 hK10 => Qc (Pm (Ps (Qe (hK10 _ _ _ (Qi (hret _ _ _ ?_))))))))
 refine Ea results102 (.cons (Qh rfl) .nil) [lgB b (some ⟨bd, 0, none⟩) va { g with down := true }, dkB bd u2 (D.swap (Rec.all to).bytes).2, dkS u2 (D.swap (Rec.all to).bytes).2] (by first | exact Hp.le_trans hR2 hR3 | exact hRz) ?_
 rw [f3]; exact ⟨rfl, u2, by rw [if_neg f2]; rfl⟩
 have f2 : (D.swap (Rec.all to).bytes).1 = 0 := by simpa using hc43
 have f3 : g.swapD D to = (0, to, (D.swap (Rec.all to).bytes).2) := by unfold LG.swapD; rw [if_pos f2]
 refine Qj (hK5 _ _ _ (Qd fun K11 hK11 => Qc (Pm ?_)))
 refine Pa ((Lm (vs := lgC (some ⟨bd, 0, none⟩) (.slice qt to.all.length ct) to) QaW)) ?_
 refine Pa (Qf rfl) ?_
 refine Sm (vs := lgC (some ⟨bd, 0, none⟩) (.slice qt to.all.length ct) to) QaW (Qdb to rfl) ?_
 refine Qe (hK11 _ _ _ ?_)
 refine Ql eN ?_
 refine Qd fun K12 hK12 => Qc (Ps (Qe (hK12 _ _ _ (Qi (hret _ _ _ ?_)))))
 refine Ea results102 (.cons (Qh rfl) .nil) [lgB b (some ⟨bd, 0, none⟩) (.slice qt to.all.length ct) to, dkB bd u2 (D.swap (Rec.all to).bytes).2, dkS u2 (D.swap (Rec.all to).bytes).2] (by first | exact Hp.le_trans hR2 hR3 | exact hRz) ?_
 rw [f3]; exact ⟨rfl, u2, by rw [if_pos rfl]; rfl⟩
theorem Qbg (o : Option Int) : Qj5 o = QF [.int .u64 (o.getD 0), .bool o.isSome] := by cases o <;> rfl
theorem Qf9 (l m : List Ent) : XG (l ++ m) = XG l + XG m := by simp [XG]
theorem Qft (l : List Ent) (k : Nat) : XG (l.drop k) ≤ XG l := by
 have := Qf9 (l.take k) (l.drop k)
 rw [List.take_append_drop] at this; omega
theorem LG.at_mem {g : LG} {i : Int} {e : Ent} (h : g.at i = some e) : e ∈ g.all := by
 unfold LG.at at h
 split at h
 ·exact List.mem_of_getElem? h
 ·cases h
theorem LG.termAt_b {g : LG} (hg : g.ok) (i : Int) : QM ((g.termAt i).getD 0) := by
 unfold LG.termAt
 split
 ·exact hg.baseT
 ·cases h : g.at i with
  | none => simp [QM]
  | some e => exact (hg.all e (LG.at_mem h)).1
theorem LG.comp_ok {g : LG} (hg : g.ok) {i : Int} {s : Bs} (hi : g.base ≤ i ∧ i ≤ 1000000000000000) (hs : s.length ≤ 1000000) : (g.comp i s).ok :=
 ⟨hg.term, hg.vote, ⟨by have := hg.base; show 0 ≤ i; omega, hi.2⟩, LG.termAt_b hg i, hs, by show (g.all.drop _).length ≤ _; have := hg.alln; simp; omega, fun e he => hg.all e (List.mem_of_mem_drop he)⟩
theorem LG.base0_ok {g : LG} (hg : g.ok) {i t : Int} {s : Bs} (hi : 0 ≤ i ∧ i ≤ 1000000000000000) (ht : QM t) (hs : s.length ≤ 1000000) : (g.base0 i t s).ok :=
 ⟨hg.term, hg.vote, hi, ht, hs, by show (0 : Nat) ≤ _; omega, fun e he => by cases he⟩
theorem Qez {R : Hp} {g to : LG} {D : DK} {va vt : Value} (h1 : FrX entE R g.all va) (h2 : FrX entE R to.all vt) : FrX entE R (g.swapD D to).2.1.all (if (g.swapD D to).1 = 0 then vt else va) := by
 unfold LG.swapD
 by_cases h : (D.swap (Rec.all to).bytes).1 = 0
 ·simp only [if_pos h, ite_true]; exact h2
 ·simp only [if_neg h]; exact h1
theorem QbA {R : Hp} (b bd : Nat) (va u : Value) (g : LG) (D : DK) (n : Nat) (i : Int) (s : Bs) (hg : g.ok) (hi : QM i) (hva : FrX entE R g.all va) (hs : s.length ≤ 1000000) (hE : XG g.all ≤ 15000000) (hL : g.last ≤ 1000000000000000) (hD : D.ok n) :
  Tri prog 80 [.pointer (some ⟨b, 0, none⟩), .int .u64 i, .string (str s)] R [lgB b (some ⟨bd, 0, none⟩) va g, dkB bd u D, dkS u D]
   (fun x R' L' => x = .int .i64 (g.compD D i s).1 ∧ ∃ u' va', FrX entE R' (g.compD D i s).2.1.all va' ∧ L' = [lgB b (some ⟨bd, 0, none⟩) va' (g.compD D i s).2.1, dkB bd u' (g.compD D i s).2.2, dkS u' (g.compD D i s).2.2]) := by
 have hdq := yv (R := R) b bd va u g D
 have hlq := YC (R := R) b (some ⟨bd, 0, none⟩) va g hg hva
 have htq := yW (R := R) b (some ⟨bd, 0, none⟩) va g hg hva i hi
 have hva0 := hva
 have hb := hg.base
 have hn := hg.alln
 have hle : g.last = g.base + g.all.length := rfl
 obtain ⟨q, cap, rfl, hq1, hq2⟩ := hva.shape
 refine Qn func80 rfl ntmps80 rfl (fun σ F Q hret hend hpan => ?_)
 try simp only [cB]
 unfold lgB lgC at hdq hlq htq ⊢
 refine Qd fun K1 hK1 => Qc (Ps (Qe (hK1 _ _ _ (Qd fun K2 hK2 => Qp (Qd fun K3 hK3 => Qc ?_)))))
 refine Pm ?_
 refine Pa (Ca call59 (hdq)) (Ps (Qe (hK3 _ _ _ ?_)))
 refine Qm rfl (fun hc8 => ?_) (fun hc8 => ?_)
 have f0 : (g.down || D.down) = true := hc8
 refine Qd fun K5 hK5 => Qc (Ps (Qe (hK5 _ _ _ (Qi (hret _ _ _ ?_)))))
 refine Ea results80 (.cons (Qh rfl) .nil) [lgB b (some ⟨bd, 0, none⟩) (.slice q g.all.length cap) g, dkB bd u D, dkS u D] (by first | exact Hp.le_refl _ | exact Hp.le_trans hR3 hR4) ?_
 rw [show g.compD D i s = (3, g, D) by unfold LG.compD; rw [if_pos f0]]; exact ⟨rfl, u, _, hva0, rfl⟩
 have f0 : ¬ (g.down || D.down) = true := by simpa using hc8
 obtain ⟨f01, f02⟩ : g.down = false ∧ D.down = false := by simpa using f0
 refine Qd fun K6 hK6 => Qc (Pm (Pm ?_))
 refine Pa (Qf rfl) ?_
 refine Pa (Ga underlying111 sizeOf36) ?_
 refine Pa (La o36) ?_
 refine Pa (QO rfl rfl) (Pm ?_)
 refine QE 18 rfl (fun hg18 => ?_) (fun hg18 => ?_)
 have f1 : i < g.base ∨ i > g.last := .inl (by simpa using hg18)
 refine Pk (Pk (Pk (Pk ?_)))
 refine Pa (Qr rfl rfl) (Ps (Qe (hK6 _ _ _ ?_)))
 refine Ql (eL 0 rfl (eL 1 rfl (eL 2 rfl (eL 11 rfl eN)))) ?_
 refine Qv rfl (Qd fun K7 hK7 => Qc (Ps (Qe (hK7 _ _ _ (Qi (hret _ _ _ ?_))))))
 refine Ea results80 (.cons (Qh rfl) .nil) [lgB b (some ⟨bd, 0, none⟩) (.slice q g.all.length cap) g, dkB bd u D, dkS u D] (by first | exact Hp.le_refl _ | exact Hp.le_trans hR3 hR4) ?_
 rw [show g.compD D i s = (1, g, D) by unfold LG.compD; rw [if_neg f0, if_pos f1]]; exact ⟨rfl, u, _, hva0, rfl⟩
 have f10 : ¬ i < g.base := by simpa using hg18
 refine Pb (Qg rfl) ?_
 refine Pb (Qg rfl) ?_
 refine Pb (Ca call60 (hlq)) ?_
 refine Pb (Xs rfl rfl) ?_
 refine Pa (Qo rfl rfl) (Ps (Qe (hK6 _ _ _ ?_)))
 refine Qm rfl (fun hc11 => ?_) (fun hc11 => ?_)
 first | have f1 : i < g.base ∨ i > g.last := .inr (by simpa using hc11) | skip
 refine Qd fun K9 hK9 => Qc (Ps (Qe (hK9 _ _ _ (Qi (hret _ _ _ ?_)))))
 refine Ea results80 (.cons (Qh rfl) .nil) [lgB b (some ⟨bd, 0, none⟩) (.slice q g.all.length cap) g, dkB bd u D, dkS u D] (by first | exact Hp.le_refl _ | exact Hp.le_trans hR3 hR4) ?_
 rw [show g.compD D i s = (1, g, D) by unfold LG.compD; rw [if_neg f0, if_pos f1]]; exact ⟨rfl, u, _, hva0, rfl⟩
 have f1 : ¬ (i < g.base ∨ i > g.last) := by (try simp at hc11); omega
 refine Qj (hK2 _ _ _ (Qd fun K10 hK10 => Qc ?_))
 obtain ⟨k, hk⟩ : ∃ k : Nat, i - g.base = k := ⟨(i - g.base).toNat, by omega⟩
 have hsub := hva0.sub (a := k) (b := g.all.length) (by omega) (by omega)
 have hkd : (g.all.drop k).take (g.all.length - k) = g.all.drop k := by rw [List.take_of_length_le (by simp)]
 rw [hkd] at hsub
 have hcD : g.compD D i s = g.swapD D (g.comp i s) := by unfold LG.compD; rw [if_neg f0, if_neg f1]
 have hcall : (g.comp i s).all = g.all.drop k := by unfold LG.comp; simp [hk]
 have hcok := LG.comp_ok hg (i := i) (s := s) ⟨by omega, by omega⟩ hs
 have hwl : (wr (Rec.all (g.comp i s)).nd).length ≤ 16777216 := by have h1 := Rec.len_all hcok; have h2 := Qft g.all k; rw [hcall] at h1; have h3 : (g.comp i s).state.length = s.length := rfl; omega
 refine Pm ?_
 refine Pa (Qf rfl) ?_
 refine Pa ((Lm (vs := lgC (some ⟨bd, 0, none⟩) (.slice q g.all.length cap) g) QaW)) ?_
 refine QA (wn0 rfl) rfl zeroValue111 rfl (fun b7 => ?_)
 refine Sm (vs := [.pointer (some ⟨bd, 0, none⟩), .bool g.down, .int .u64 g.term, .int .i64 g.vote, .int .u64 g.base, .int .u64 g.baseT, .string (str g.state), .slice q g.all.length cap]) QaW (Qdb g rfl) ?_
 refine Qe (hK10 _ _ _ (Qd fun K11 hK11 => Qc (Pm (Pm ?_))))
 refine Pa (Ca call100 (htq)) (Pm ?_)
 refine Xg 27 rfl (v' := QF [.int .u64 ((g.termAt i).getD 0), .bool (g.termAt i).isSome]) (Qbg _) ?_
 refine Pa (Qq rfl rfl) ?_
 refine Pa (Qq rfl rfl) ?_
 refine Pa (Ga underlying111 sizeOf36) ?_
 refine Sa o36 ?_
 refine Qe (hK11 _ _ _ ?_)
 refine Ql (eL 0 rfl (eL 1 rfl (eL 2 rfl (eL 7 rfl eN)))) ?_
 refine Qd fun K12 hK12 => ?_
 refine Xd (L := [blk b [.pointer (some ⟨bd, 0, none⟩), .bool g.down, .int .u64 g.term, .int .i64 g.vote, .int .u64 g.base, .int .u64 g.baseT, .string (str g.state), .slice q g.all.length cap] 111]) [0, 1, 2, 3, 4, 5, 6, 7, 8, 9, 10, 12, 13] [11, 14, 15, 16, 17] [18, 19] _ sb_ (by kernel_rfl) (by kernel_rfl) (by kernel_rfl) rfl ?_
 refine Wa rfl (fun R1 hR1 G => (Qg rfl)) ?_
 refine Wa rfl (fun R1 hR1 G => (Qf rfl)) ?_
 refine Wa rfl (fun R1 hR1 G => (Ga underlying111 sizeOf76)) ?_
 refine Wa rfl (fun R1 hR1 G => (La o76)) ?_
 refine Wa rfl (fun R1 hR1 G => (Qg rfl)) ?_
 refine Wa rfl (fun R1 hR1 G => (Qg rfl)) ?_
 refine Wa rfl (fun R1 hR1 G => (Qf rfl)) ?_
 refine Wa rfl (fun R1 hR1 G => (Ga underlying111 sizeOf36)) ?_
 refine Wa rfl (fun R1 hR1 G => (La o36)) ?_
 refine Wa rfl (fun R1 hR1 G => (Yld.to (u := .int .u64 (k : Int)) (ZE rfl rfl (by omega)) (by rw [hk]))) ?_
 refine Wa rfl (fun R1 hR1 G => (Zk (l := k) (h := g.all.length) underlying76 sizeOf93 rfl ⟨.u64, rfl⟩ rfl (by omega))) ?_
 refine Wa rfl (fun R1 hR1 G => (Qg rfl)) ?_
 refine Wa rfl (fun R1 hR1 G => (Qg rfl)) ?_
 refine Xc ?_
 refine QH rfl ?_
 try simp only [cC]
 refine Ra call101 (Qfw (g.all.drop k) _ hsub (by simp; omega)) ?_
 rintro r R2 L' hR2 ⟨rfl, hro, rfl⟩
 try simp only [cB]
 refine QI le_ sb_ ?_
 refine QH rfl ?_
 try simp only [cC]
 refine Pa (Ga underlying111 sizeOf76) ?_
 refine QI le_ sb_ ?_
 refine QH rfl ?_
 try simp only [cC]
 refine Sa o76 ?_
 refine QI le_ sb_ ?_
 refine QH rfl ?_
 try simp only [cC]
 refine Pa (Ga underlying111 sizeOf36) ?_
 refine QI le_ sb_ ?_
 refine QH rfl ?_
 try simp only [cC]
 refine Sa o36 ?_
 refine QI le_ sb_ ?_
 refine Xe ?_
 try simp only [cC]
 refine Pa (Ga underlying111 sizeOf9) ?_
 refine Sa o9 ?_
 refine Yd (e := 93) (sz := 2) (n := (g.all.drop k).length) (v := r) (xs := Yt (g.all.drop k)) fd_ (fun R3 hR3 hfr hxl => ?_)
 have hfx := Qa4 hfr
 obtain ⟨qf, cf, rfl, _, _⟩ := hfx.shape
 refine Qe (hK12 _ _ _ (Qd fun K13 hK13 => Qc (Pm ?_)))
 refine Pa ((Lm (vs := lgC (some ⟨bd, 0, none⟩) (.slice qf (g.all.drop k).length cf) (g.comp i s)) QaW)) ?_
 refine Ra call102 (Qfc b bd (.slice q g.all.length cap) u (.slice qf (g.all.drop k).length cf) g (g.comp i s) D n rfl hcok (by rw [hcall]; exact hfx) hwl hD) ?_
 rintro x R4 L' hR4 ⟨rfl, u2, rfl⟩
 unfold lgB lgC
 try simp only [cB]
 refine Ps (Qe (hK13 _ _ _ ?_))
 refine Ql (eL 6 rfl eN) ?_
 refine Qi (hret _ _ _ ?_)
 refine Ea results80 (.cons (Qh rfl) .nil) [lgB b (some ⟨bd, 0, none⟩) (if (g.swapD D (g.comp i s)).1 = 0 then .slice qf (g.all.drop k).length cf else .slice q g.all.length cap) (g.swapD D (g.comp i s)).2.1, dkB bd u2 (g.swapD D (g.comp i s)).2.2, dkS u2 (g.swapD D (g.comp i s)).2.2] (by first | exact Hp.le_refl _ | exact Hp.le_trans hR3 hR4) ?_
 rw [hcD]; exact ⟨rfl, u2, _, Qez (hva0.mono (Hp.le_trans hR3 hR4)) (by rw [hcall]; exact hfx.mono hR4), rfl⟩
theorem Qf3 {R : Hp} (b bd : Nat) (va u : Value) (g : LG) (D : DK) (n : Nat) (i t : Int) (s : Bs) (hg : g.ok) (hi : 0 ≤ i ∧ i ≤ 1000000000000000) (ht : QM t) (hva : FrX entE R g.all va) (hs : s.length ≤ 1000000) (hE : XG g.all ≤ 15000000) (hL : g.last ≤ 1000000000000000) (hD : D.ok n) :
  Tri prog 99 [.pointer (some ⟨b, 0, none⟩), .int .u64 i, .int .u64 t, .string (str s)] R [lgB b (some ⟨bd, 0, none⟩) va g, dkB bd u D, dkS u D]
   (fun x R' L' => x = .int .i64 (g.instD D i t s).1 ∧ ∃ u' va', FrX entE R' (g.instD D i t s).2.1.all va' ∧ L' = [lgB b (some ⟨bd, 0, none⟩) va' (g.instD D i t s).2.1, dkB bd u' (g.instD D i t s).2.2, dkS u' (g.instD D i t s).2.2]) := by
 have hiu : QM i := by unfold QM; omega
 have hdq := yv (R := R) b bd va u g D
 have htq := yW (R := R) b (some ⟨bd, 0, none⟩) va g hg hva i hiu
 have hct := QbA (R := R) b bd va u g D n i s hg hiu hva hs hE hL hD
 have hva0 := hva
 have hb := hg.base
 have hn := hg.alln
 have hle : g.last = g.base + g.all.length := rfl
 obtain ⟨q, cap, rfl, hq1, hq2⟩ := hva.shape
 have hbok := LG.base0_ok hg (i := i) (t := t) (s := s) hi ht hs
 have hwl : (wr (Rec.all (g.base0 i t s)).nd).length ≤ 16777216 := by have h1 := Rec.len_all hbok; have h2 : XG (g.base0 i t s).all = 0 := rfl; have h3 : (g.base0 i t s).state.length = s.length := rfl; omega
 refine Qn func99 rfl ntmps99 rfl (fun σ F Q hret hend hpan => ?_)
 try simp only [cB]
 unfold lgB lgC at hdq htq hct ⊢
 refine Qd fun K1 hK1 => Qc (Ps (Qe (hK1 _ _ _ (Qd fun K2 hK2 => ?_))))
 have hJ5 : ∀ (x5 : Nat), ¬ (g.down || D.down) = true ∧ ¬ (i < g.base ∨ (i = g.base ∧ ¬ t = g.baseT)) → EJ ⟨prog, 67, σ⟩ K2 [(0, .pointer (some ⟨b, 0, none⟩)), (1, .int .u64 i), (2, .int .u64 t), (3, .string (str s))] R (blk b [.pointer (some ⟨bd, 0, none⟩), .bool g.down, .int .u64 g.term, .int .i64 g.vote, .int .u64 g.base, .int .u64 g.baseT, .string (str g.state), .slice q g.all.length cap] 111 :: dkB bd u D :: dkS u D :: F) := by
  rintro x5 ⟨f0, f1⟩
  try dsimp only
  refine hK2 _ _ _ (Qd fun K3 hK3 => ?_)
  have hJ8 : ∀ (x8 : Nat), ¬ g.termAt i = some t → EJ ⟨prog, 67, σ⟩ K3 [(0, .pointer (some ⟨b, 0, none⟩)), (1, .int .u64 i), (2, .int .u64 t), (3, .string (str s))] R (blk b [.pointer (some ⟨bd, 0, none⟩), .bool g.down, .int .u64 g.term, .int .i64 g.vote, .int .u64 g.base, .int .u64 g.baseT, .string (str g.state), .slice q g.all.length cap] 111 :: dkB bd u D :: dkS u D :: F) := by
   rintro x8 h2
   try dsimp only
   refine hK3 _ _ _ (Qd fun K4 hK4 => Qc (Pm ?_))
   refine Pa (Qf rfl) ?_
   refine Pa ((Lm (vs := lgC (some ⟨bd, 0, none⟩) (.slice q g.all.length cap) g) QaW)) ?_
   refine QA (wn0 rfl) rfl zeroValue111 rfl (fun b11 => ?_)
   refine Sm (vs := [.pointer (some ⟨bd, 0, none⟩), .bool g.down, .int .u64 g.term, .int .i64 g.vote, .int .u64 g.base, .int .u64 g.baseT, .string (str g.state), .slice q g.all.length cap]) QaW (Qdb g rfl) ?_
   refine Qe (hK4 _ _ _ (Qd fun K5 hK5 => Qc (Pm (Pm (Pm ?_)))))
   refine Pa (Ga underlying111 sizeOf76) ?_
   refine Sa o76 ?_
   refine Pa (Ga underlying111 sizeOf36) ?_
   refine Sa o36 ?_
   refine Pa (Ga underlying111 sizeOf36) ?_
   refine Sa o36 ?_
   refine Pa (Ga underlying111 sizeOf9) ?_
   refine Sa o9 ?_
   refine Qe (hK5 _ _ _ (Qd fun K6 hK6 => Qc (Pm ?_)))
   refine Pa ((Lm (vs := lgC (some ⟨bd, 0, none⟩) (.slice none 0 0) (g.base0 i t s)) QaW)) ?_
   refine Ra call102 (Qfc b bd (.slice q g.all.length cap) u (.slice none 0 0) g (g.base0 i t s) D n rfl hbok FrX.nil hwl hD) ?_
   rintro x R4 L' hR4 ⟨rfl, u2, rfl⟩
   unfold lgB lgC
   have hiD : g.instD D i t s = g.swapD D (g.base0 i t s) := by unfold LG.instD; rw [if_neg f0, if_neg f1, if_neg h2]
   try simp only [cB]
   refine Ps (Qe (hK6 _ _ _ (Qi (hret _ _ _ ?_))))
   refine Ea results99 (.cons (Qh rfl) .nil) [lgB b (some ⟨bd, 0, none⟩) (if (g.swapD D (g.base0 i t s)).1 = 0 then .slice none 0 0 else .slice q g.all.length cap) (g.swapD D (g.base0 i t s)).2.1, dkB bd u2 (g.swapD D (g.base0 i t s)).2.2, dkS u2 (g.swapD D (g.base0 i t s)).2.2] (by first | exact Hp.le_refl _ | exact hR4) ?_
   rw [hiD]; exact ⟨rfl, u2, _, Qez (hva0.mono hR4) FrX.nil, rfl⟩
  refine Qd fun K7 hK7 => Qc (Pm (Pm ?_))
  refine Pa (Ca call100 (htq)) ?_
  refine Xg 41 rfl (v' := QF [.int .u64 ((g.termAt i).getD 0), .bool (g.termAt i).isSome]) (Qbg _) ?_
  refine Pm ?_
  refine Pa (Qq rfl rfl) ?_
  refine Pa (Qq rfl rfl) (Ps (Ps (Qe (hK7 _ _ _ ?_))))
  refine Ql (eL 0 rfl (eL 1 rfl (eL 2 rfl (eL 3 rfl (eL 9 rfl (eL 10 rfl eN)))))) ?_
  refine Qd fun K8 hK8 => Qc (Pm (Pm ?_))
  refine QE 45 rfl (fun hg45 => ?_) (fun hg45 => ?_)
  have h1 : (g.termAt i).isSome = true := hg45
  obtain ⟨tt, htt⟩ := Option.isSome_iff_exists.1 h1
  rw [htt]
  refine Pb (Qg rfl) ?_
  refine Pb (Qg rfl) ?_
  refine Pb (QB rfl rfl) ?_
  refine Pa (Qr rfl rfl) (Qe (hK8 _ _ _ ?_))
  refine Qm rfl (fun hc49 => ?_) (fun hc49 => ?_)
  first | have h2 : g.termAt i = some t := by rw [htt]; simpa using hc49 | skip
  refine Qd fun K10 hK10 => Qc (Pm (Pm (Pm ?_)))
  refine Ra call80 (hct) ?_
  rintro x R4 L' hR4 ⟨rfl, u2, va2, hva2, rfl⟩
  have hiD : g.instD D i t s = g.compD D i s := by unfold LG.instD; rw [if_neg f0, if_neg f1, if_pos h2]
  try simp only [cB]
  refine Ps (Qe (hK10 _ _ _ (Qi (hret _ _ _ ?_))))
  refine Ea results99 (.cons (Qh rfl) .nil) [lgB b (some ⟨bd, 0, none⟩) va2 (g.compD D i s).2.1, dkB bd u2 (g.compD D i s).2.2, dkS u2 (g.compD D i s).2.2] (by first | exact Hp.le_refl _ | exact hR4) ?_
  rw [hiD]; exact ⟨rfl, u2, va2, hva2, rfl⟩
  first | have h2 : ¬ g.termAt i = some t := by rw [htt]; simpa using hc49 | skip
  refine Qj ?_
  refine QG hJ8 (0) (h2) (eC rfl (eC rfl (eC rfl (eC rfl eN)))) rfl sb_
  have h1 : g.termAt i = none := by simpa using hg45
  have h2 : ¬ g.termAt i = some t := by rw [h1]; simp
  refine Pk (Pk (Pk ?_))
  refine Pa (Qo rfl rfl) (Qe (hK8 _ _ _ (Qs rfl (Qj ?_))))
  refine QG hJ8 (0) (h2) (eC rfl (eC rfl (eC rfl (eC rfl eN)))) rfl sb_
 refine Qp (Qd fun K11 hK11 => Qc (Pm ?_))
 refine Pa (Ca call59 (hdq)) (Ps (Qe (hK11 _ _ _ ?_)))
 refine Qm rfl (fun hc12 => ?_) (fun hc12 => ?_)
 have f0 : (g.down || D.down) = true := hc12
 refine Qd fun K13 hK13 => Qc (Ps (Qe (hK13 _ _ _ ?_)))
 refine Ql (eL 8 rfl eN) ?_
 refine Qi (hret _ _ _ ?_)
 refine Ea results99 (.cons (Qh rfl) .nil) [lgB b (some ⟨bd, 0, none⟩) (.slice q g.all.length cap) g, dkB bd u D, dkS u D] (by first | exact Hp.le_refl _ | exact hR4) ?_
 rw [show g.instD D i t s = (3, g, D) by unfold LG.instD; rw [if_pos f0]]; exact ⟨rfl, u, _, hva0, rfl⟩
 have f0 : ¬ (g.down || D.down) = true := by simpa using hc12
 obtain ⟨f01, f02⟩ : g.down = false ∧ D.down = false := by simpa using f0
 refine Qd fun K14 hK14 => Qc (Pm (Pm ?_))
 refine Pa (Qf rfl) ?_
 refine Pa (Ga underlying111 sizeOf36) ?_
 refine Pa (La o36) ?_
 refine Pa (QO rfl rfl) (Pm ?_)
 refine QE 22 rfl (fun hg22 => ?_) (fun hg22 => ?_)
 have f1 : i < g.base ∨ (i = g.base ∧ ¬ t = g.baseT) := .inl (by simpa using hg22)
 refine Pk (Pk (Pk (Pk (Pk (Pk (Pk ?_))))))
 refine QX (wn3 rfl rfl rfl rfl) rfl rfl ?_
 refine QX (wn3 rfl rfl rfl rfl) rfl rfl ?_
 refine QX (wn3 rfl rfl rfl rfl) rfl rfl ?_
 refine QX (wn3 rfl rfl rfl rfl) rfl rfl ?_
 refine QX (wn3 rfl rfl rfl rfl) rfl rfl ?_
 refine QX (wn3 rfl rfl rfl rfl) rfl rfl ?_
 refine Pk ?_
 refine Pa (Qr rfl rfl) (Ps (Qe (hK14 _ _ _ (Qv rfl (Qd fun K15 hK15 => Qc ?_)))))
 refine Ps (Qe (hK15 _ _ _ ?_))
 refine Ql (eL 8 rfl eN) ?_
 refine Qi (hret _ _ _ ?_)
 refine Ea results99 (.cons (Qh rfl) .nil) [lgB b (some ⟨bd, 0, none⟩) (.slice q g.all.length cap) g, dkB bd u D, dkS u D] (by first | exact Hp.le_refl _ | exact hR4) ?_
 rw [show g.instD D i t s = (1, g, D) by unfold LG.instD; rw [if_neg f0, if_pos f1]]; exact ⟨rfl, u, _, hva0, rfl⟩
 have f10 : ¬ i < g.base := by simpa using hg22
 refine Pb (Qg rfl) ?_
 refine Pb (Qg rfl) ?_
 refine Pb (Qf rfl) ?_
 refine Pb (Ga underlying111 sizeOf36) ?_
 refine Pb (La o36) ?_
 refine Pb (QB rfl rfl) ?_
 refine Pb (Qg rfl) ?_
 refine QE 29 rfl (fun hg29 => ?_) (fun hg29 => ?_)
 have f11 : i = g.base := by simpa using hg29
 refine Pb (Qg rfl) ?_
 refine Pb (Qg rfl) ?_
 refine Pb (Qf rfl) ?_
 refine Pb (Ga underlying111 sizeOf36) ?_
 refine Pb (La o36) ?_
 refine Pb (XU rfl rfl) ?_
 refine Pb (Qr rfl rfl) ?_
 refine Pa (Qo rfl rfl) (Ps (Qe (hK14 _ _ _ ?_)))
 refine Qm rfl (fun hc15 => ?_) (fun hc15 => ?_)
 first | have f1 : i < g.base ∨ (i = g.base ∧ ¬ t = g.baseT) := .inr ⟨f11, by simpa using hc15⟩ | skip
 refine Qd fun K17 hK17 => Qc (Ps (Qe (hK17 _ _ _ (Qi (hret _ _ _ ?_)))))
 refine Ea results99 (.cons (Qh rfl) .nil) [lgB b (some ⟨bd, 0, none⟩) (.slice q g.all.length cap) g, dkB bd u D, dkS u D] (by first | exact Hp.le_refl _ | exact hR4) ?_
 rw [show g.instD D i t s = (1, g, D) by unfold LG.instD; rw [if_neg f0, if_pos f1]]; exact ⟨rfl, u, _, hva0, rfl⟩
 first | have f1 : ¬ (i < g.base ∨ (i = g.base ∧ ¬ t = g.baseT)) := by (try simp at hc15); omega | skip
 refine Qj ?_
 refine QG hJ5 (0) (⟨f0, f1⟩) (eC rfl (eC rfl (eC rfl (eC rfl eN)))) rfl sb_
 have f11 : ¬ i = g.base := by simpa using hg29
 have f1 : ¬ (i < g.base ∨ (i = g.base ∧ ¬ t = g.baseT)) := by omega
 refine Pk (Pk (Pk (Pk (Pk (Pk ?_)))))
 refine Pb (Qo rfl rfl) ?_
 refine Pa (Qo rfl rfl) (Ps (Qe (hK14 _ _ _ ?_)))
 refine Ql (eL 0 rfl (eL 1 rfl (eL 2 rfl (eL 3 rfl (eL 15 rfl eN))))) ?_
 refine Qs rfl (Qj ?_)
 refine QG hJ5 (0) (⟨f0, f1⟩) (eC rfl (eC rfl (eC rfl (eC rfl eN)))) rfl sb_
end V
end Go.Proofs.YtenfjpigffjgmaaGreat
