/- The document's kind of an expression; names. -/
import Derived.Test.YtghgifgmacapcaaT18e
set_option linter.unusedSimpArgs false
set_option linter.unusedVariables false
set_option maxRecDepth 100000
namespace Go.Proofs.Ytghgifgmacapcaa
open Go.RowKit
namespace V
set_option maxHeartbeats 4000000
theorem rKind_q {R : Hp} (x : Ex) (cs : List Value) (cols : List Cl) (vc : Value) (may : Bool) (hwf : WfX x) (hx : RepX R x cs) (hcols : FrX colE R cols vc) (hck : ∀ c ∈ cols, kok c.kind) : QTri Try.prog 14 [.agg ⟨cs⟩, vc, .bool may] R [] (tupOf [.int .i64 (kindE cols may x).1, .int .i64 (kindE cols may x).2]) := by
  have hvc := hcols.one
  have hxo := hx.one
  have hxl := hx.len
  refine Tri.q2 ?_
  refine tri_of Try.func14 rfl Try.ntmps14 rfl (fun σ F Q hret hend hpan => ?_)
  try simp only [List.cons_append, List.nil_append]
  refine cj_env (eL 0 rfl (eL 1 rfl (eL 2 rfl eN))) ?_
  refine cj_seq (fun K1 hK1 => ?_)
  refine cj_region ?_
  refine rj_box (wn0 rfl) rfl rfl rfl (fun b3 => ?_)
  refine rv0 rfl rfl rfl (y_assign rfl) ?_
  refine rv0 rfl rfl rfl (y_assign rfl) ?_
  refine rj_nil ?_
  refine hK1 _ _ _ ?_
  refine cj_env (eL 1 rfl (eL 2 rfl (eL 3 rfl eN))) ?_
  refine cj_seq (fun K2 hK2 => ?_)
  refine cj_region ?_
  refine rv0 rfl rfl rfl ((y_loads_all (vs := cs) ⟨Try.isAgg29, Try.sizeOf29⟩ hxl rfl (by (repeat (first|exact zH _|apply zT));done))) ?_
  refine rv0 rfl rfl rfl (y_move rfl) ?_
  refine rv0 rfl rfl rfl (y_move rfl) ?_
  refine rv0 rfl rfl rfl (y_call Try.call36 rfl (rkind_q _ x cs cols vc may (Nat.le_refl _) hwf hx hcols hck) (by (repeat (first|exact zN _|(apply zS;focus (repeat (first|exact zH _|apply zT))))))) ?_
  refine rv0 rfl rfl rfl (y_move rfl) ?_
  refine rv0 rfl rfl rfl (y_extract rfl rfl) ?_
  refine rv0 rfl rfl rfl (y_extract rfl rfl) ?_
  refine rv0 rfl rfl rfl (y_assign rfl) ?_
  refine rv0 rfl rfl rfl (y_assign rfl) ?_
  refine rj_nil ?_
  refine hK2 _ _ _ ?_
  refine cj_env (eL 3 rfl (eL 8 rfl (eL 9 rfl eN))) ?_
  refine cj_seq (fun K3 hK3 => ?_)
  refine cj_seq (fun K4 hK4 => ?_)
  refine cj_region ?_
  refine rv0 rfl rfl rfl (y_move rfl) ?_
  refine rv0 rfl rfl rfl (y_eql rfl rfl) ?_
  refine rv0 rfl rfl rfl (y_move rfl) ?_
  refine rj_part 19 rfl (fun hg19 => ?_) (fun hg19 => ?_)
  ·try simp only [dT, dF, nT, nF, tF, fT] at hg19
   refine rj_val (wn1 rfl rfl rfl rfl) rfl rfl ((y_loads_all (vs := cs) ⟨Try.isAgg29, Try.sizeOf29⟩ hxl rfl (by (repeat (first|exact zH _|apply zT));done))) ?_
   refine rj_val (wn1 rfl rfl rfl rfl) rfl rfl (y_call Try.call16 rfl (rgroup_q _ x cs (Nat.le_refl _) hx) (by (repeat (first|exact zN _|(apply zS;focus (repeat (first|exact zH _|apply zT))))))) ?_
   refine rv0 rfl rfl rfl (y_pick_t rfl rfl) ?_
   refine rv0 rfl rfl rfl (y_move rfl) ?_
   refine rj_part 23 rfl (fun hg23 => ?_) (fun hg23 => ?_)
   ·try simp only [dT, dF, nT, nF, tF, fT] at hg23
    refine rj_val (wn1 rfl rfl rfl rfl) rfl rfl ((y_loads_all (vs := cs) ⟨Try.isAgg29, Try.sizeOf29⟩ hxl rfl (by (repeat (first|exact zH _|apply zT));done))) ?_
    refine rj_val (wn1 rfl rfl rfl rfl) rfl rfl (y_call Try.call37 rfl (rbare_q _ x cs (Nat.le_refl _) hx) (by (repeat (first|exact zN _|(apply zS;focus (repeat (first|exact zH _|apply zT))))))) ?_
    refine rv0 rfl rfl rfl (y_pick_t rfl rfl) ?_
    refine rj_nil ?_
    refine hK4 _ _ _ ?_
    refine cj_env (eL 8 rfl (eL 9 rfl (eL 26 rfl eN))) ?_
    refine cj_cond rfl (fun hc26 => ?_) (fun hc26 => ?_)
    ·try simp only [dT, dF, nT, nF, tF, fT] at hc26
     refine cj_seq (fun K6 hK6 => ?_)
     refine cj_region ?_
     refine rv0 rfl rfl rfl (y_assign rfl) ?_
     refine rv0 rfl rfl rfl (y_assign rfl) ?_
     refine rj_nil ?_
     refine hK6 _ _ _ ?_
     refine cj_env (eL 6 rfl (eL 7 rfl eN)) ?_
     refine cj_ret ?_
     refine hret _ _ _ ?_
     apply ej_ret Try.results14 (.cons (rv_tmp rfl) (.cons (rv_tmp rfl) .nil)) _ [] (by (first | exact Hp.le_refl _ | assumption | exact Hp.le_trans ‹_› ‹_›)) rfl
     case hp => refine ⟨?_, rfl⟩; simp_all [kindE, tupOf]
     case hS => (repeat (first|exact zR _|(apply zP;focus (repeat (first|exact zH _|apply zT)))|apply zD|exact zA _ _))
    ·try simp only [dT, dF, nT, nF, tF, fT] at hc26
     refine cj_skip ?_
     refine hK3 _ _ _ ?_
     refine cj_seq (fun K7 hK7 => ?_)
     refine cj_region ?_
     refine rv0 rfl rfl rfl (y_move rfl) ?_
     refine rv0 rfl rfl rfl (y_move rfl) ?_
     refine rv0 rfl rfl rfl (y_assign rfl) ?_
     refine rv0 rfl rfl rfl (y_assign rfl) ?_
     refine rj_nil ?_
     refine hK7 _ _ _ ?_
     refine cj_env (eL 6 rfl (eL 7 rfl eN)) ?_
     refine cj_ret ?_
     refine hret _ _ _ ?_
     apply ej_ret Try.results14 (.cons (rv_tmp rfl) (.cons (rv_tmp rfl) .nil)) _ [] (by (first | exact Hp.le_refl _ | assumption | exact Hp.le_trans ‹_› ‹_›)) rfl
     case hp => refine ⟨?_, rfl⟩; simp_all [kindE, tupOf]
     case hS => (repeat (first|exact zR _|(apply zP;focus (repeat (first|exact zH _|apply zT)))|apply zD|exact zA _ _))
   ·try simp only [dT, dF, nT, nF, tF, fT] at hg23
    refine rj_skip (wn2 rfl rfl rfl rfl rfl) rfl rfl ?_
    refine rj_skip (wn2 rfl rfl rfl rfl rfl) rfl rfl ?_
    refine rv0 rfl rfl rfl (y_pick_f rfl rfl) ?_
    refine rj_nil ?_
    refine hK4 _ _ _ ?_
    refine cj_env (eL 8 rfl (eL 9 rfl (eL 26 rfl eN))) ?_
    refine cj_cond_f rfl ?_
    refine cj_skip ?_
    refine hK3 _ _ _ ?_
    refine cj_seq (fun K8 hK8 => ?_)
    refine cj_region ?_
    refine rv0 rfl rfl rfl (y_move rfl) ?_
    refine rv0 rfl rfl rfl (y_move rfl) ?_
    refine rv0 rfl rfl rfl (y_assign rfl) ?_
    refine rv0 rfl rfl rfl (y_assign rfl) ?_
    refine rj_nil ?_
    refine hK8 _ _ _ ?_
    refine cj_env (eL 6 rfl (eL 7 rfl eN)) ?_
    refine cj_ret ?_
    refine hret _ _ _ ?_
    apply ej_ret Try.results14 (.cons (rv_tmp rfl) (.cons (rv_tmp rfl) .nil)) _ [] (by (first | exact Hp.le_refl _ | assumption | exact Hp.le_trans ‹_› ‹_›)) rfl
    case hp => refine ⟨?_, rfl⟩; simp_all [kindE, tupOf]
    case hS => (repeat (first|exact zR _|(apply zP;focus (repeat (first|exact zH _|apply zT)))|apply zD|exact zA _ _))
  ·try simp only [dT, dF, nT, nF, tF, fT] at hg19
   refine rj_skip (wn2 rfl rfl rfl rfl rfl) rfl rfl ?_
   refine rj_skip (wn2 rfl rfl rfl rfl rfl) rfl rfl ?_
   refine rv0 rfl rfl rfl (y_pick_f rfl rfl) ?_
   refine rv0 rfl rfl rfl (y_move rfl) ?_
   refine rj_skip (wn2 rfl rfl rfl rfl rfl) rfl rfl ?_
   refine rj_skip (wn2 rfl rfl rfl rfl rfl) rfl rfl ?_
   refine rv0 rfl rfl rfl (y_pick_f rfl rfl) ?_
   refine rj_nil ?_
   refine hK4 _ _ _ ?_
   refine cj_env (eL 8 rfl (eL 9 rfl (eL 26 rfl eN))) ?_
   refine cj_cond_f rfl ?_
   refine cj_skip ?_
   refine hK3 _ _ _ ?_
   refine cj_seq (fun K9 hK9 => ?_)
   refine cj_region ?_
   refine rv0 rfl rfl rfl (y_move rfl) ?_
   refine rv0 rfl rfl rfl (y_move rfl) ?_
   refine rv0 rfl rfl rfl (y_assign rfl) ?_
   refine rv0 rfl rfl rfl (y_assign rfl) ?_
   refine rj_nil ?_
   refine hK9 _ _ _ ?_
   refine cj_env (eL 6 rfl (eL 7 rfl eN)) ?_
   refine cj_ret ?_
   refine hret _ _ _ ?_
   apply ej_ret Try.results14 (.cons (rv_tmp rfl) (.cons (rv_tmp rfl) .nil)) _ [] (by (first | exact Hp.le_refl _ | assumption | exact Hp.le_trans ‹_› ‹_›)) rfl
   case hp => refine ⟨?_, rfl⟩; simp_all [kindE, tupOf]
   case hS => (repeat (first|exact zR _|(apply zP;focus (repeat (first|exact zH _|apply zT)))|apply zD|exact zA _ _))
/-- a call whose result is somehow plain: what it made is forgotten -/
theorem Tri.r2 {P : Program} {f : FuncId} {args : List Value} {R : Hp} {L : List Asn} {p : Value → Prop} (h : Tri P f args R L (fun u _ L' => p u ∧ L' = L)) : Tri P f args R L (fun u R' L' => R = R' ∧ p u ∧ L' = L) :=
  fun σ F w hs => (h σ F w hs).mono fun e w' ⟨R', L', hR, hw, hp⟩ => by
    cases e with
    | returned u => obtain ⟨h1, rfl⟩ := hp; exact ⟨R, L', Hp.le_refl R, hw.shrink hR, rfl, h1, rfl⟩
    | panicked ch => exact hp.elim
    | outgrown => exact hp.elim
theorem strs_nth {l : List Bs} {i : Nat} (h : i < l.length) : ∃ s, nth (l.map fun s => Value.string (str s)) ((i : Int).toNat * 1) = some (.string (str s)) := by
  refine ⟨l[i], ?_⟩
  rw [nth_eq, Int.toNat_natCast, Nat.mul_one, List.getElem?_map, List.getElem?_eq_getElem h]; rfl
def resW : List Bs := [[99, 114, 101, 97, 116, 101], [116, 97, 98, 108, 101], [100, 114, 111, 112], [105, 110, 115, 101, 114, 116], [105, 110, 116, 111], [118, 97, 108, 117, 101, 115], [115, 101, 108, 101, 99, 116], [102, 114, 111, 109], [119, 104, 101, 114, 101], [111, 114, 100, 101, 114], [98, 121], [100, 101, 115, 99], [108, 105, 109, 105, 116], [117, 112, 100, 97, 116, 101], [115, 101, 116], [100, 101, 108, 101, 116, 101], [97, 110, 100], [111, 114], [110, 111, 116], [105, 115], [110, 117, 108, 108], [105, 110, 116], [116, 101, 120, 116], [100, 101, 116], [107, 101, 121], [99, 111, 117, 110, 116], [115, 117, 109], [109, 105, 110], [109, 97, 120]]
theorem reserved_t {R : Hp} (s : Bs) : Tri Try.prog 49 [.string (str s)] R [] (fun u R' L' => R = R' ∧ (∃ b : Bool, u = .bool b) ∧ L' = []) := by
  refine Tri.r2 ?_
  refine tri_of Try.func49 rfl Try.ntmps49 rfl (fun σ F Q hret hend hpan => ?_)
  try simp only [List.cons_append, List.nil_append]
  refine cj_env (eL 0 rfl eN) ?_
  refine cj_seq (fun K1 hK1 => ?_)
  refine cj_region ?_
  refine rv0 rfl rfl rfl (y_assign rfl) ?_
  refine rj_nil ?_
  refine hK1 _ _ _ ?_
  refine cj_seq (fun K2 hK2 => ?_)
  refine cj_seq (fun K3 hK3 => ?_)
  refine cj_region ?_
  refine rj_buildSlice (sz := 1) (wn0 rfl) rfl Try.underlying68 Try.sizeOf9 Try.zeroValue9 rfl rfl rfl (by decide) (by decide) (fun bw => ?_)
  first | refine rv0 rfl rfl rfl (y_len_sl Try.underlying68 rfl) ?_ | refine rv0 rfl rfl rfl (y_len_slc Try.underlying68 rfl (by (repeat (first|exact zH _|apply zT));done)) ?_
  refine rv0 rfl rfl rfl (y_move rfl) ?_
  refine rj_nil ?_
  refine hK3 _ _ _ ?_
  refine cj_block ?_
  refine cj_env (E' := (fun (x : Nat) => [(0, .string (str s)), (5, .slice (some ⟨bw, 0, none⟩) 29 29), (6, .int .i64 29), (7, .int .i64 (x : Int))]) 0) (eC rfl (eC rfl (eC rfl (eC rfl eN)))) ?_
  refine cj_sub (M := (fun (x : Nat) => slc 9 1 (.slice (some ⟨bw, 0, none⟩) 29 29) 29 (resW.map fun s => Value.string (str s)) :: F) 0) (by (repeat (first|exact zR _|(apply zP;focus (repeat (first|exact zH _|apply zT)))|apply zD|exact zA _ _))) ?_
  refine cj_loop (fun (x : Nat) => [(0, .string (str s)), (5, .slice (some ⟨bw, 0, none⟩) 29 29), (6, .int .i64 29), (7, .int .i64 (x : Int))]) (fun (x : Nat) => R) (fun (x : Nat) => slc 9 1 (.slice (some ⟨bw, 0, none⟩) 29 29) 29 (resW.map fun s => Value.string (str s)) :: F) (fun (x : Nat) => x ≤ 29) (fun (x : Nat) => 29 - x) 0 (by simp) ?_
  rintro i hi
  try dsimp only
  refine cj_seq (fun K4 hK4 => ?_)
  refine cj_region ?_
  refine rv0 rfl rfl rfl (y_lss rfl rfl) ?_
  refine rj_nil ?_
  refine hK4 _ _ _ ?_
  refine cj_seq (fun K5 hK5 => ?_)
  refine cj_cond rfl (fun hc8 => ?_) (fun hc8 => ?_)
  ·try simp only [dT, dF, nT, nF, tF, fT] at hc8
   refine cj_skip ?_
   refine hK5 _ _ _ ?_
   refine cj_seq (fun K7 hK7 => ?_)
   refine cj_block ?_
   refine cj_seq (fun K8 hK8 => ?_)
   refine cj_region ?_
   obtain ⟨s1, hs1⟩ := strs_nth (l := resW) (i := i) (by show i < 29; omega)
   refine rv0 rfl rfl rfl ((y_index_slc (sz := 1) (n := 29) Try.underlying68 Try.sizeOf9 rfl rfl (by (repeat (first|exact zH _|apply zT));done) (by omega))) ?_
   refine rv0 rfl rfl rfl ((y_load_slc ⟨Try.isAgg9, Try.sizeOf9⟩ rfl (by (repeat (first|exact zH _|apply zT));done) hs1)) ?_
   refine rv0 rfl rfl rfl (y_assign rfl) ?_
   refine rj_nil ?_
   refine hK8 _ _ _ ?_
   refine cj_env (eL 0 rfl (eL 4 rfl (eL 5 rfl (eL 6 rfl (eL 7 rfl eN))))) ?_
   refine cj_seq (fun K9 hK9 => ?_)
   refine cj_region ?_
   refine rv0 rfl rfl rfl (y_move rfl) ?_
   refine rv0 rfl rfl rfl (y_move rfl) ?_
   refine rv0 rfl rfl rfl (y_seql rfl rfl) ?_
   refine rj_nil ?_
   refine hK9 _ _ _ ?_
   refine cj_env (eL 0 rfl (eL 5 rfl (eL 6 rfl (eL 7 rfl (eL 13 rfl eN))))) ?_
   refine cj_cond rfl (fun hc13 => ?_) (fun hc13 => ?_)
   ·try simp only [dT, dF, nT, nF, tF, fT] at hc13
    refine cj_seq (fun K11 hK11 => ?_)
    refine cj_region ?_
    refine rv0 rfl rfl rfl (y_assign rfl) ?_
    refine rj_nil ?_
    refine hK11 _ _ _ ?_
    refine cj_env (eL 2 rfl eN) ?_
    refine cj_ret ?_
    refine hret _ _ _ ?_
    apply ej_ret Try.results49 (.cons (rv_tmp rfl) .nil) _ [] (by (first | exact Hp.le_refl _ | assumption | exact Hp.le_trans ‹_› ‹_›)) rfl
    case hp => exact ⟨⟨_, rfl⟩, rfl⟩
    case hS => (repeat (first|exact zR _|(apply zP;focus (repeat (first|exact zH _|apply zT)))|apply zD|exact zA _ _))
   ·try simp only [dT, dF, nT, nF, tF, fT] at hc13
    refine cj_skip ?_
    refine hK7 _ _ _ ?_
    refine cj_region ?_
    first | refine rv0 rfl rfl rfl (y_add64 rfl rfl (by (first | omega | (dsimp only; omega) | (simp; done) | (simp; omega)))) ?_ | refine rv0 rfl rfl rfl (y_add rfl rfl) ?_
    refine rv0 rfl rfl rfl (y_move rfl) ?_
    refine rj_nil ?_
    refine ej_on (q' := roundK _ _ _ _ _ _ _) rfl ?_
    refine ej_round (i + 1) (by omega) (by omega) (eC rfl (eC rfl (eC rfl (eC rfl eN)))) rfl (by (repeat (first|exact zR _|(apply zP;focus (repeat (first|exact zH _|apply zT)))|apply zD|exact zA _ _)))
  ·try simp only [dT, dF, nT, nF, tF, fT] at hc8
   refine cj_exit ?_
   refine hK2 _ _ _ ?_
   refine cj_env eN ?_
   refine cj_seq (fun K12 hK12 => ?_)
   refine cj_region ?_
   refine rv0 rfl rfl rfl (y_assign rfl) ?_
   refine rj_nil ?_
   refine hK12 _ _ _ ?_
   refine cj_ret ?_
   refine hret _ _ _ ?_
   apply ej_ret Try.results49 (.cons (rv_tmp rfl) .nil) _ [] (by (first | exact Hp.le_refl _ | assumption | exact Hp.le_trans ‹_› ‹_›)) rfl
   case hp => exact ⟨⟨_, rfl⟩, rfl⟩
   case hS => (repeat (first|exact zR _|(apply zP;focus (repeat (first|exact zH _|apply zT)))|apply zD|exact zA _ _))
theorem name_t {R : Hp} (s : Bs) (hs : s.length ≤ 60) : Tri Try.prog 33 [.string (str s)] R [] (fun u R' L' => R = R' ∧ (∃ b : Bs, u = .string (str b)) ∧ L' = []) := by
  refine Tri.r2 ?_
  refine tri_of Try.func33 rfl Try.ntmps33 rfl (fun σ F Q hret hend hpan => ?_)
  try simp only [List.cons_append, List.nil_append]
  refine cj_env (eL 0 rfl eN) ?_
  refine cj_seq (fun K1 hK1 => ?_)
  refine cj_region ?_
  refine rv0 rfl rfl rfl (y_assign rfl) ?_
  refine rj_nil ?_
  refine hK1 _ _ _ ?_
  refine cj_seq (fun K2 hK2 => ?_)
  refine cj_region ?_
  refine rv0 rfl rfl rfl (y_assign rfl) ?_
  refine rj_nil ?_
  refine hK2 _ _ _ ?_
  refine cj_seq (fun K3 hK3 => ?_)
  refine cj_block ?_
  refine cj_env (E' := (fun (x : Nat) => [(0, .string (str s)), (3, .int .i64 (x : Int))]) 0) (eC rfl (eC rfl eN)) ?_
  refine cj_sub (M := (fun (x : Nat) => F) 0) (by (repeat (first|exact zR _|(apply zP;focus (repeat (first|exact zH _|apply zT)))|apply zD|exact zA _ _))) ?_
  refine cj_loop (fun (x : Nat) => [(0, .string (str s)), (3, .int .i64 (x : Int))]) (fun (x : Nat) => R) (fun (x : Nat) => F) (fun (x : Nat) => x ≤ s.length) (fun (x : Nat) => s.length - x) 0 (by simp) ?_
  rintro i hi
  try dsimp only
  refine cj_seq (fun K4 hK4 => ?_)
  refine cj_seq (fun K5 hK5 => ?_)
  refine cj_region ?_
  refine rv0 rfl rfl rfl (y_move rfl) ?_
  refine rv0 rfl rfl rfl (y_move rfl) ?_
  refine rv0 rfl rfl rfl (y_slen Try.underlying9 rfl) ?_
  refine rv0 rfl rfl rfl (y_lss rfl rfl) ?_
  refine rv0 rfl rfl rfl (y_move rfl) ?_
  refine rj_part 8 rfl (fun hg8 => ?_) (fun hg8 => ?_)
  ·try simp only [dT, dF, nT, nF, tF, fT] at hg8
   refine rj_val (wn1 rfl rfl rfl rfl) rfl rfl (y_move rfl) ?_
   refine rj_val (wn1 rfl rfl rfl rfl) rfl rfl (y_lss rfl rfl) ?_
   refine rv0 rfl rfl rfl (y_pick_t rfl rfl) ?_
   refine rv0 rfl rfl rfl (y_move rfl) ?_
   refine rj_part 12 rfl (fun hg12 => ?_) (fun hg12 => ?_)
   ·try simp only [dT, dF, nT, nF, tF, fT] at hg12
    refine rj_val (wn1 rfl rfl rfl rfl) rfl rfl (y_move rfl) ?_
    refine rj_val (wn1 rfl rfl rfl rfl) rfl rfl (y_move rfl) ?_
    refine rj_val (wn1 rfl rfl rfl rfl) rfl rfl (y_index_s Try.underlying9 rfl rfl (by (first | omega | (dsimp only; omega) | (simp; done) | (simp; omega)))) ?_
    refine rj_val (wn1 rfl rfl rfl rfl) rfl rfl (y_geq rfl rfl) ?_
    refine rv0 rfl rfl rfl (y_pick_t rfl rfl) ?_
    refine rv0 rfl rfl rfl (y_move rfl) ?_
    refine rj_part 18 rfl (fun hg18 => ?_) (fun hg18 => ?_)
    ·try simp only [dT, dF, nT, nF, tF, fT] at hg18
     refine rj_val (wn1 rfl rfl rfl rfl) rfl rfl (y_move rfl) ?_
     refine rj_val (wn1 rfl rfl rfl rfl) rfl rfl (y_move rfl) ?_
     refine rj_val (wn1 rfl rfl rfl rfl) rfl rfl (y_index_s Try.underlying9 rfl rfl (by (first | omega | (dsimp only; omega) | (simp; done) | (simp; omega)))) ?_
     refine rj_val (wn1 rfl rfl rfl rfl) rfl rfl (y_leq rfl rfl) ?_
     refine rv0 rfl rfl rfl (y_pick_t rfl rfl) ?_
     refine rj_nil ?_
     refine hK5 _ _ _ ?_
     refine cj_env (eL 0 rfl (eL 3 rfl (eL 23 rfl eN))) ?_
     refine cj_cond rfl (fun hc23 => ?_) (fun hc23 => ?_)
     ·try simp only [dT, dF, nT, nF, tF, fT] at hc23
      refine cj_skip ?_
      refine hK4 _ _ _ ?_
      refine cj_block ?_
      refine cj_region ?_
      refine rv0 rfl rfl rfl (y_move rfl) ?_
      first | refine rv0 rfl rfl rfl (y_add64 rfl rfl (by (first | omega | (dsimp only; omega) | (simp; done) | (simp; omega)))) ?_ | refine rv0 rfl rfl rfl (y_add rfl rfl) ?_
      refine rv0 rfl rfl rfl (y_assign rfl) ?_
      refine rj_nil ?_
      refine ej_on (q' := roundK _ _ _ _ _ _ _) rfl ?_
      refine ej_round (i + 1) (by omega) (by omega) (eC rfl (eC rfl eN)) rfl (by (repeat (first|exact zR _|(apply zP;focus (repeat (first|exact zH _|apply zT)))|apply zD|exact zA _ _)))
     ·try simp only [dT, dF, nT, nF, tF, fT] at hc23
      refine cj_exit ?_
      refine hK3 _ _ _ ?_
      refine cj_seq (fun K7 hK7 => ?_)
      refine cj_seq (fun K8 hK8 => ?_)
      refine cj_region ?_
      refine rv0 rfl rfl rfl (y_move rfl) ?_
      refine rv0 rfl rfl rfl (y_eql rfl rfl) ?_
      refine rv0 rfl rfl rfl (y_move rfl) ?_
      refine rj_part 28 rfl (fun hg28 => ?_) (fun hg28 => ?_)
      ·try simp only [dT, dF, nT, nF, tF, fT] at hg28
       refine rj_skip (wn2 rfl rfl rfl rfl rfl) rfl rfl ?_
       refine rj_skip (wn2 rfl rfl rfl rfl rfl) rfl rfl ?_
       refine rj_skip (wn2 rfl rfl rfl rfl rfl) rfl rfl ?_
       refine rj_skip (wn2 rfl rfl rfl rfl rfl) rfl rfl ?_
       refine rv0 rfl rfl rfl (y_pick_t rfl rfl) ?_
       refine rj_nil ?_
       refine hK8 _ _ _ ?_
       refine cj_env (eL 0 rfl (eL 3 rfl (eL 33 rfl eN))) ?_
       refine cj_cond_t rfl ?_
       refine cj_seq (fun K9 hK9 => ?_)
       refine cj_region ?_
       refine rv0 rfl rfl rfl (y_assign rfl) ?_
       refine rj_nil ?_
       refine hK9 _ _ _ ?_
       refine cj_env (eL 2 rfl eN) ?_
       refine cj_ret ?_
       refine hret _ _ _ ?_
       apply ej_ret Try.results33 (.cons (rv_tmp rfl) .nil) _ [] (by (first | exact Hp.le_refl _ | assumption | exact Hp.le_trans ‹_› ‹_›)) rfl
       case hp => exact ⟨⟨_, rfl⟩, rfl⟩
       case hS => (repeat (first|exact zR _|(apply zP;focus (repeat (first|exact zH _|apply zT)))|apply zD|exact zA _ _))
      ·try simp only [dT, dF, nT, nF, tF, fT] at hg28
       refine rj_val (wn1 rfl rfl rfl rfl) rfl rfl (y_move rfl) ?_
       refine rj_val (wn1 rfl rfl rfl rfl) rfl rfl (y_move rfl) ?_
       refine rj_val (wn1 rfl rfl rfl rfl) rfl rfl (y_slice_s_hi Try.underlying9 rfl rfl (by (first | omega | (dsimp only; omega) | (simp; done) | (simp; omega)))) ?_
       refine rj_call (wn1 rfl rfl rfl rfl) rfl Try.call49 rfl (reserved_t _) (by (repeat (first|exact zN _|(apply zS;focus (repeat (first|exact zH _|apply zT)))))) (fun _ _ _ _ h => h.elim) ?_
       rintro u R' L' hR ⟨rfl, ⟨b, rfl⟩, rfl⟩
       try simp only [List.cons_append, List.nil_append]
       refine rv0 rfl rfl rfl (y_pick_f rfl rfl) ?_
       refine rj_nil ?_
       refine hK8 _ _ _ ?_
       refine cj_env (eL 0 rfl (eL 3 rfl (eL 33 rfl eN))) ?_
       refine cj_cond rfl (fun hc33 => ?_) (fun hc33 => ?_)
       ·try simp only [dT, dF, nT, nF, tF, fT] at hc33
        refine cj_seq (fun K11 hK11 => ?_)
        refine cj_region ?_
        refine rv0 rfl rfl rfl (y_assign rfl) ?_
        refine rj_nil ?_
        refine hK11 _ _ _ ?_
        refine cj_env (eL 2 rfl eN) ?_
        refine cj_ret ?_
        refine hret _ _ _ ?_
        apply ej_ret Try.results33 (.cons (rv_tmp rfl) .nil) _ [] (by (first | exact Hp.le_refl _ | assumption | exact Hp.le_trans ‹_› ‹_›)) rfl
        case hp => exact ⟨⟨_, rfl⟩, rfl⟩
        case hS => (repeat (first|exact zR _|(apply zP;focus (repeat (first|exact zH _|apply zT)))|apply zD|exact zA _ _))
       ·try simp only [dT, dF, nT, nF, tF, fT] at hc33
        refine cj_skip ?_
        refine hK7 _ _ _ ?_
        refine cj_seq (fun K12 hK12 => ?_)
        refine cj_region ?_
        refine rv0 rfl rfl rfl (y_move rfl) ?_
        refine rv0 rfl rfl rfl (y_move rfl) ?_
        refine rv0 rfl rfl rfl (y_slice_s_hi Try.underlying9 rfl rfl (by (first | omega | (dsimp only; omega) | (simp; done) | (simp; omega)))) ?_
        refine rv0 rfl rfl rfl (y_assign rfl) ?_
        refine rj_nil ?_
        refine hK12 _ _ _ ?_
        refine cj_env (eL 2 rfl eN) ?_
        refine cj_ret ?_
        refine hret _ _ _ ?_
        apply ej_ret Try.results33 (.cons (rv_tmp rfl) .nil) _ [] (by (first | exact Hp.le_refl _ | assumption | exact Hp.le_trans ‹_› ‹_›)) rfl
        case hp => exact ⟨⟨_, rfl⟩, rfl⟩
        case hS => (repeat (first|exact zR _|(apply zP;focus (repeat (first|exact zH _|apply zT)))|apply zD|exact zA _ _))
    ·try simp only [dT, dF, nT, nF, tF, fT] at hg18
     refine rj_skip (wn2 rfl rfl rfl rfl rfl) rfl rfl ?_
     refine rj_skip (wn2 rfl rfl rfl rfl rfl) rfl rfl ?_
     refine rj_skip (wn2 rfl rfl rfl rfl rfl) rfl rfl ?_
     refine rj_skip (wn2 rfl rfl rfl rfl rfl) rfl rfl ?_
     refine rv0 rfl rfl rfl (y_pick_f rfl rfl) ?_
     refine rj_nil ?_
     refine hK5 _ _ _ ?_
     refine cj_env (eL 0 rfl (eL 3 rfl (eL 23 rfl eN))) ?_
     refine cj_cond_f rfl ?_
     refine cj_exit ?_
     refine hK3 _ _ _ ?_
     refine cj_seq (fun K13 hK13 => ?_)
     refine cj_seq (fun K14 hK14 => ?_)
     refine cj_region ?_
     refine rv0 rfl rfl rfl (y_move rfl) ?_
     refine rv0 rfl rfl rfl (y_eql rfl rfl) ?_
     refine rv0 rfl rfl rfl (y_move rfl) ?_
     refine rj_part 28 rfl (fun hg28 => ?_) (fun hg28 => ?_)
     ·try simp only [dT, dF, nT, nF, tF, fT] at hg28
      refine rj_skip (wn2 rfl rfl rfl rfl rfl) rfl rfl ?_
      refine rj_skip (wn2 rfl rfl rfl rfl rfl) rfl rfl ?_
      refine rj_skip (wn2 rfl rfl rfl rfl rfl) rfl rfl ?_
      refine rj_skip (wn2 rfl rfl rfl rfl rfl) rfl rfl ?_
      refine rv0 rfl rfl rfl (y_pick_t rfl rfl) ?_
      refine rj_nil ?_
      refine hK14 _ _ _ ?_
      refine cj_env (eL 0 rfl (eL 3 rfl (eL 33 rfl eN))) ?_
      refine cj_cond_t rfl ?_
      refine cj_seq (fun K15 hK15 => ?_)
      refine cj_region ?_
      refine rv0 rfl rfl rfl (y_assign rfl) ?_
      refine rj_nil ?_
      refine hK15 _ _ _ ?_
      refine cj_env (eL 2 rfl eN) ?_
      refine cj_ret ?_
      refine hret _ _ _ ?_
      apply ej_ret Try.results33 (.cons (rv_tmp rfl) .nil) _ [] (by (first | exact Hp.le_refl _ | assumption | exact Hp.le_trans ‹_› ‹_›)) rfl
      case hp => exact ⟨⟨_, rfl⟩, rfl⟩
      case hS => (repeat (first|exact zR _|(apply zP;focus (repeat (first|exact zH _|apply zT)))|apply zD|exact zA _ _))
     ·try simp only [dT, dF, nT, nF, tF, fT] at hg28
      refine rj_val (wn1 rfl rfl rfl rfl) rfl rfl (y_move rfl) ?_
      refine rj_val (wn1 rfl rfl rfl rfl) rfl rfl (y_move rfl) ?_
      refine rj_val (wn1 rfl rfl rfl rfl) rfl rfl (y_slice_s_hi Try.underlying9 rfl rfl (by (first | omega | (dsimp only; omega) | (simp; done) | (simp; omega)))) ?_
      refine rj_call (wn1 rfl rfl rfl rfl) rfl Try.call49 rfl (reserved_t _) (by (repeat (first|exact zN _|(apply zS;focus (repeat (first|exact zH _|apply zT)))))) (fun _ _ _ _ h => h.elim) ?_
      rintro u R' L' hR ⟨rfl, ⟨b, rfl⟩, rfl⟩
      try simp only [List.cons_append, List.nil_append]
      refine rv0 rfl rfl rfl (y_pick_f rfl rfl) ?_
      refine rj_nil ?_
      refine hK14 _ _ _ ?_
      refine cj_env (eL 0 rfl (eL 3 rfl (eL 33 rfl eN))) ?_
      refine cj_cond rfl (fun hc33 => ?_) (fun hc33 => ?_)
      ·try simp only [dT, dF, nT, nF, tF, fT] at hc33
       refine cj_seq (fun K17 hK17 => ?_)
       refine cj_region ?_
       refine rv0 rfl rfl rfl (y_assign rfl) ?_
       refine rj_nil ?_
       refine hK17 _ _ _ ?_
       refine cj_env (eL 2 rfl eN) ?_
       refine cj_ret ?_
       refine hret _ _ _ ?_
       apply ej_ret Try.results33 (.cons (rv_tmp rfl) .nil) _ [] (by (first | exact Hp.le_refl _ | assumption | exact Hp.le_trans ‹_› ‹_›)) rfl
       case hp => exact ⟨⟨_, rfl⟩, rfl⟩
       case hS => (repeat (first|exact zR _|(apply zP;focus (repeat (first|exact zH _|apply zT)))|apply zD|exact zA _ _))
      ·try simp only [dT, dF, nT, nF, tF, fT] at hc33
       refine cj_skip ?_
       refine hK13 _ _ _ ?_
       refine cj_seq (fun K18 hK18 => ?_)
       refine cj_region ?_
       refine rv0 rfl rfl rfl (y_move rfl) ?_
       refine rv0 rfl rfl rfl (y_move rfl) ?_
       refine rv0 rfl rfl rfl (y_slice_s_hi Try.underlying9 rfl rfl (by (first | omega | (dsimp only; omega) | (simp; done) | (simp; omega)))) ?_
       refine rv0 rfl rfl rfl (y_assign rfl) ?_
       refine rj_nil ?_
       refine hK18 _ _ _ ?_
       refine cj_env (eL 2 rfl eN) ?_
       refine cj_ret ?_
       refine hret _ _ _ ?_
       apply ej_ret Try.results33 (.cons (rv_tmp rfl) .nil) _ [] (by (first | exact Hp.le_refl _ | assumption | exact Hp.le_trans ‹_› ‹_›)) rfl
       case hp => exact ⟨⟨_, rfl⟩, rfl⟩
       case hS => (repeat (first|exact zR _|(apply zP;focus (repeat (first|exact zH _|apply zT)))|apply zD|exact zA _ _))
   ·try simp only [dT, dF, nT, nF, tF, fT] at hg12
    refine rj_skip (wn2 rfl rfl rfl rfl rfl) rfl rfl ?_
    refine rj_skip (wn2 rfl rfl rfl rfl rfl) rfl rfl ?_
    refine rj_skip (wn2 rfl rfl rfl rfl rfl) rfl rfl ?_
    refine rj_skip (wn2 rfl rfl rfl rfl rfl) rfl rfl ?_
    refine rv0 rfl rfl rfl (y_pick_f rfl rfl) ?_
    refine rv0 rfl rfl rfl (y_move rfl) ?_
    refine rj_skip (wn2 rfl rfl rfl rfl rfl) rfl rfl ?_
    refine rj_skip (wn2 rfl rfl rfl rfl rfl) rfl rfl ?_
    refine rj_skip (wn2 rfl rfl rfl rfl rfl) rfl rfl ?_
    refine rj_skip (wn2 rfl rfl rfl rfl rfl) rfl rfl ?_
    refine rv0 rfl rfl rfl (y_pick_f rfl rfl) ?_
    refine rj_nil ?_
    refine hK5 _ _ _ ?_
    refine cj_env (eL 0 rfl (eL 3 rfl (eL 23 rfl eN))) ?_
    refine cj_cond_f rfl ?_
    refine cj_exit ?_
    refine hK3 _ _ _ ?_
    refine cj_seq (fun K19 hK19 => ?_)
    refine cj_seq (fun K20 hK20 => ?_)
    refine cj_region ?_
    refine rv0 rfl rfl rfl (y_move rfl) ?_
    refine rv0 rfl rfl rfl (y_eql rfl rfl) ?_
    refine rv0 rfl rfl rfl (y_move rfl) ?_
    refine rj_part 28 rfl (fun hg28 => ?_) (fun hg28 => ?_)
    ·try simp only [dT, dF, nT, nF, tF, fT] at hg28
     refine rj_skip (wn2 rfl rfl rfl rfl rfl) rfl rfl ?_
     refine rj_skip (wn2 rfl rfl rfl rfl rfl) rfl rfl ?_
     refine rj_skip (wn2 rfl rfl rfl rfl rfl) rfl rfl ?_
     refine rj_skip (wn2 rfl rfl rfl rfl rfl) rfl rfl ?_
     refine rv0 rfl rfl rfl (y_pick_t rfl rfl) ?_
     refine rj_nil ?_
     refine hK20 _ _ _ ?_
     refine cj_env (eL 0 rfl (eL 3 rfl (eL 33 rfl eN))) ?_
     refine cj_cond_t rfl ?_
     refine cj_seq (fun K21 hK21 => ?_)
     refine cj_region ?_
     refine rv0 rfl rfl rfl (y_assign rfl) ?_
     refine rj_nil ?_
     refine hK21 _ _ _ ?_
     refine cj_env (eL 2 rfl eN) ?_
     refine cj_ret ?_
     refine hret _ _ _ ?_
     apply ej_ret Try.results33 (.cons (rv_tmp rfl) .nil) _ [] (by (first | exact Hp.le_refl _ | assumption | exact Hp.le_trans ‹_› ‹_›)) rfl
     case hp => exact ⟨⟨_, rfl⟩, rfl⟩
     case hS => (repeat (first|exact zR _|(apply zP;focus (repeat (first|exact zH _|apply zT)))|apply zD|exact zA _ _))
    ·try simp only [dT, dF, nT, nF, tF, fT] at hg28
     refine rj_val (wn1 rfl rfl rfl rfl) rfl rfl (y_move rfl) ?_
     refine rj_val (wn1 rfl rfl rfl rfl) rfl rfl (y_move rfl) ?_
     refine rj_val (wn1 rfl rfl rfl rfl) rfl rfl (y_slice_s_hi Try.underlying9 rfl rfl (by (first | omega | (dsimp only; omega) | (simp; done) | (simp; omega)))) ?_
     refine rj_call (wn1 rfl rfl rfl rfl) rfl Try.call49 rfl (reserved_t _) (by (repeat (first|exact zN _|(apply zS;focus (repeat (first|exact zH _|apply zT)))))) (fun _ _ _ _ h => h.elim) ?_
     rintro u R' L' hR ⟨rfl, ⟨b, rfl⟩, rfl⟩
     try simp only [List.cons_append, List.nil_append]
     refine rv0 rfl rfl rfl (y_pick_f rfl rfl) ?_
     refine rj_nil ?_
     refine hK20 _ _ _ ?_
     refine cj_env (eL 0 rfl (eL 3 rfl (eL 33 rfl eN))) ?_
     refine cj_cond rfl (fun hc33 => ?_) (fun hc33 => ?_)
     ·try simp only [dT, dF, nT, nF, tF, fT] at hc33
      refine cj_seq (fun K23 hK23 => ?_)
      refine cj_region ?_
      refine rv0 rfl rfl rfl (y_assign rfl) ?_
      refine rj_nil ?_
      refine hK23 _ _ _ ?_
      refine cj_env (eL 2 rfl eN) ?_
      refine cj_ret ?_
      refine hret _ _ _ ?_
      apply ej_ret Try.results33 (.cons (rv_tmp rfl) .nil) _ [] (by (first | exact Hp.le_refl _ | assumption | exact Hp.le_trans ‹_› ‹_›)) rfl
      case hp => exact ⟨⟨_, rfl⟩, rfl⟩
      case hS => (repeat (first|exact zR _|(apply zP;focus (repeat (first|exact zH _|apply zT)))|apply zD|exact zA _ _))
     ·try simp only [dT, dF, nT, nF, tF, fT] at hc33
      refine cj_skip ?_
      refine hK19 _ _ _ ?_
      refine cj_seq (fun K24 hK24 => ?_)
      refine cj_region ?_
      refine rv0 rfl rfl rfl (y_move rfl) ?_
      refine rv0 rfl rfl rfl (y_move rfl) ?_
      refine rv0 rfl rfl rfl (y_slice_s_hi Try.underlying9 rfl rfl (by (first | omega | (dsimp only; omega) | (simp; done) | (simp; omega)))) ?_
      refine rv0 rfl rfl rfl (y_assign rfl) ?_
      refine rj_nil ?_
      refine hK24 _ _ _ ?_
      refine cj_env (eL 2 rfl eN) ?_
      refine cj_ret ?_
      refine hret _ _ _ ?_
      apply ej_ret Try.results33 (.cons (rv_tmp rfl) .nil) _ [] (by (first | exact Hp.le_refl _ | assumption | exact Hp.le_trans ‹_› ‹_›)) rfl
      case hp => exact ⟨⟨_, rfl⟩, rfl⟩
      case hS => (repeat (first|exact zR _|(apply zP;focus (repeat (first|exact zH _|apply zT)))|apply zD|exact zA _ _))
  ·try simp only [dT, dF, nT, nF, tF, fT] at hg8
   refine rj_skip (wn2 rfl rfl rfl rfl rfl) rfl rfl ?_
   refine rj_skip (wn2 rfl rfl rfl rfl rfl) rfl rfl ?_
   refine rv0 rfl rfl rfl (y_pick_f rfl rfl) ?_
   refine rv0 rfl rfl rfl (y_move rfl) ?_
   refine rj_skip (wn2 rfl rfl rfl rfl rfl) rfl rfl ?_
   refine rj_skip (wn2 rfl rfl rfl rfl rfl) rfl rfl ?_
   refine rj_skip (wn2 rfl rfl rfl rfl rfl) rfl rfl ?_
   refine rj_skip (wn2 rfl rfl rfl rfl rfl) rfl rfl ?_
   refine rv0 rfl rfl rfl (y_pick_f rfl rfl) ?_
   refine rv0 rfl rfl rfl (y_move rfl) ?_
   refine rj_skip (wn2 rfl rfl rfl rfl rfl) rfl rfl ?_
   refine rj_skip (wn2 rfl rfl rfl rfl rfl) rfl rfl ?_
   refine rj_skip (wn2 rfl rfl rfl rfl rfl) rfl rfl ?_
   refine rj_skip (wn2 rfl rfl rfl rfl rfl) rfl rfl ?_
   refine rv0 rfl rfl rfl (y_pick_f rfl rfl) ?_
   refine rj_nil ?_
   refine hK5 _ _ _ ?_
   refine cj_env (eL 0 rfl (eL 3 rfl (eL 23 rfl eN))) ?_
   refine cj_cond_f rfl ?_
   refine cj_exit ?_
   refine hK3 _ _ _ ?_
   refine cj_seq (fun K25 hK25 => ?_)
   refine cj_seq (fun K26 hK26 => ?_)
   refine cj_region ?_
   refine rv0 rfl rfl rfl (y_move rfl) ?_
   refine rv0 rfl rfl rfl (y_eql rfl rfl) ?_
   refine rv0 rfl rfl rfl (y_move rfl) ?_
   refine rj_part 28 rfl (fun hg28 => ?_) (fun hg28 => ?_)
   ·try simp only [dT, dF, nT, nF, tF, fT] at hg28
    refine rj_skip (wn2 rfl rfl rfl rfl rfl) rfl rfl ?_
    refine rj_skip (wn2 rfl rfl rfl rfl rfl) rfl rfl ?_
    refine rj_skip (wn2 rfl rfl rfl rfl rfl) rfl rfl ?_
    refine rj_skip (wn2 rfl rfl rfl rfl rfl) rfl rfl ?_
    refine rv0 rfl rfl rfl (y_pick_t rfl rfl) ?_
    refine rj_nil ?_
    refine hK26 _ _ _ ?_
    refine cj_env (eL 0 rfl (eL 3 rfl (eL 33 rfl eN))) ?_
    refine cj_cond_t rfl ?_
    refine cj_seq (fun K27 hK27 => ?_)
    refine cj_region ?_
    refine rv0 rfl rfl rfl (y_assign rfl) ?_
    refine rj_nil ?_
    refine hK27 _ _ _ ?_
    refine cj_env (eL 2 rfl eN) ?_
    refine cj_ret ?_
    refine hret _ _ _ ?_
    apply ej_ret Try.results33 (.cons (rv_tmp rfl) .nil) _ [] (by (first | exact Hp.le_refl _ | assumption | exact Hp.le_trans ‹_› ‹_›)) rfl
    case hp => exact ⟨⟨_, rfl⟩, rfl⟩
    case hS => (repeat (first|exact zR _|(apply zP;focus (repeat (first|exact zH _|apply zT)))|apply zD|exact zA _ _))
   ·try simp only [dT, dF, nT, nF, tF, fT] at hg28
    refine rj_val (wn1 rfl rfl rfl rfl) rfl rfl (y_move rfl) ?_
    refine rj_val (wn1 rfl rfl rfl rfl) rfl rfl (y_move rfl) ?_
    refine rj_val (wn1 rfl rfl rfl rfl) rfl rfl (y_slice_s_hi Try.underlying9 rfl rfl (by (first | omega | (dsimp only; omega) | (simp; done) | (simp; omega)))) ?_
    refine rj_call (wn1 rfl rfl rfl rfl) rfl Try.call49 rfl (reserved_t _) (by (repeat (first|exact zN _|(apply zS;focus (repeat (first|exact zH _|apply zT)))))) (fun _ _ _ _ h => h.elim) ?_
    rintro u R' L' hR ⟨rfl, ⟨b, rfl⟩, rfl⟩
    try simp only [List.cons_append, List.nil_append]
    refine rv0 rfl rfl rfl (y_pick_f rfl rfl) ?_
    refine rj_nil ?_
    refine hK26 _ _ _ ?_
    refine cj_env (eL 0 rfl (eL 3 rfl (eL 33 rfl eN))) ?_
    refine cj_cond rfl (fun hc33 => ?_) (fun hc33 => ?_)
    ·try simp only [dT, dF, nT, nF, tF, fT] at hc33
     refine cj_seq (fun K29 hK29 => ?_)
     refine cj_region ?_
     refine rv0 rfl rfl rfl (y_assign rfl) ?_
     refine rj_nil ?_
     refine hK29 _ _ _ ?_
     refine cj_env (eL 2 rfl eN) ?_
     refine cj_ret ?_
     refine hret _ _ _ ?_
     apply ej_ret Try.results33 (.cons (rv_tmp rfl) .nil) _ [] (by (first | exact Hp.le_refl _ | assumption | exact Hp.le_trans ‹_› ‹_›)) rfl
     case hp => exact ⟨⟨_, rfl⟩, rfl⟩
     case hS => (repeat (first|exact zR _|(apply zP;focus (repeat (first|exact zH _|apply zT)))|apply zD|exact zA _ _))
    ·try simp only [dT, dF, nT, nF, tF, fT] at hc33
     refine cj_skip ?_
     refine hK25 _ _ _ ?_
     refine cj_seq (fun K30 hK30 => ?_)
     refine cj_region ?_
     refine rv0 rfl rfl rfl (y_move rfl) ?_
     refine rv0 rfl rfl rfl (y_move rfl) ?_
     refine rv0 rfl rfl rfl (y_slice_s_hi Try.underlying9 rfl rfl (by (first | omega | (dsimp only; omega) | (simp; done) | (simp; omega)))) ?_
     refine rv0 rfl rfl rfl (y_assign rfl) ?_
     refine rj_nil ?_
     refine hK30 _ _ _ ?_
     refine cj_env (eL 2 rfl eN) ?_
     refine cj_ret ?_
     refine hret _ _ _ ?_
     apply ej_ret Try.results33 (.cons (rv_tmp rfl) .nil) _ [] (by (first | exact Hp.le_refl _ | assumption | exact Hp.le_trans ‹_› ‹_›)) rfl
     case hp => exact ⟨⟨_, rfl⟩, rfl⟩
     case hS => (repeat (first|exact zR _|(apply zP;focus (repeat (first|exact zH _|apply zT)))|apply zD|exact zA _ _))
end V
end Go.Proofs.Ytghgifgmacapcaa
