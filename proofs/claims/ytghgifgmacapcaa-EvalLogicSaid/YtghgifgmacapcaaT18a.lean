/- How values, columns and expressions stand in memory. -/
import Derived.Test.YtghgifgmacapcaaT18p
import Derived.Test.YtghgifgmacapcaaV17
import Derived.Test.YtghgifgmacapcaaProg
import Derived.KernelRfl
set_option linter.unusedSimpArgs false
set_option linter.unusedVariables false
set_option maxRecDepth 100000
namespace Go.Proofs.Ytghgifgmacapcaa
open Go.RowKit
namespace V
set_option maxHeartbeats 4000000
def valC (v : Vl) : List Value := [.int .i64 v.kind, .int .i64 v.n, .string (str v.s)]
def valE : Elt Vl where
  P := fun _ v cs => cs = valC v
  sz := 3
  mono := fun _ h => h
  len := fun h => by subst h; rfl
  one := fun h u hu => by subst h; simp [valC] at hu; rcases hu with rfl | rfl | rfl <;> rfl
def colC (c : Cl) : List Value := [.string (str c.name), .int .i64 c.kind, .int .i64 c.how]
def colE : Elt Cl where
  P := fun _ v cs => cs = colC v
  sz := 3
  mono := fun _ h => h
  len := fun h => by subst h; rfl
  one := fun h u hu => by subst h; simp [colC] at hu; rcases hu with rfl | rfl | rfl <;> rfl
def exC (op : Bs) (v : Vl) (name : Bs) (vk : Value) : List Value := [.string (str op), .int .i64 v.kind, .int .i64 v.n, .string (str v.s), .string (str name), vk]
inductive RepX (R : Hp) : Ex → List Value → Prop
  | mk {op : Op} {v : Vl} {name : Bs} {kids : List Ex} {q : Option Addr} {cap : Nat} (css : List (List Value)) : css.length = kids.length → kids.length ≤ cap → cap ≤ maxLen →
      (∀ (i : Nat) (x : Ex) (cs : List Value), kids[i]? = some x → css[i]? = some cs → RepX R x cs) →
      (kids.length = 0 ∨ ∃ b off, q = some ⟨b, off, none⟩ ∧ ∀ (j : Nat) (u : Value), css.flatten[j]? = some u → Hp.cell R ⟨b, off + j, none⟩ = some u) →
      RepX R (.mk op v name kids) (exC op.str v name (.slice q kids.length cap))
theorem RepX.mono {R R' : Hp} (hR : R.le R') {x : Ex} {cs : List Value} (h : RepX R x cs) : RepX R' x cs := by
  induction h with
  | mk css h1 h2 h3 _ h5 ih =>
    refine .mk css h1 h2 h3 ih ?_
    rcases h5 with h | ⟨b, off, hq, hc⟩
    · exact .inl h
    · exact .inr ⟨b, off, hq, fun j u hj => cell_mono hR (hc j u hj)⟩
theorem RepX.len {R : Hp} {x : Ex} {cs : List Value} (h : RepX R x cs) : cs.length = 6 := by cases h; rfl
theorem RepX.one {R : Hp} {x : Ex} {cs : List Value} (h : RepX R x cs) : ∀ u ∈ cs, u.oneCell' = true := by
  cases h
  intro u hu
  simp only [exC, List.mem_cons, List.not_mem_nil, or_false] at hu
  rcases hu with rfl | rfl | rfl | rfl | rfl | rfl <;> rfl
def exE : Elt Ex where
  P := RepX
  sz := 6
  mono := fun hR h => h.mono hR
  len := fun h => h.len
  one := fun h => h.one
theorem RepX.inv {R : Hp} {x : Ex} {cs : List Value} (h : RepX R x cs) : ∃ op v name kids vk, x = .mk op v name kids ∧ cs = exC op.str v name vk ∧ FrX exE R kids vk := by
  cases h with
  | mk css h1 h2 h3 h4 h5 => exact ⟨_, _, _, _, _, rfl, rfl, css, ⟨h1, h4⟩, _, _, rfl, h2, h3, h5⟩
theorem RepX.of {R : Hp} {op : Op} {v : Vl} {name : Bs} {kids : List Ex} {vk : Value} (h : FrX exE R kids vk) : RepX R (.mk op v name kids) (exC op.str v name vk) := by
  obtain ⟨css, ⟨h1, h4⟩, q, cap, rfl, h2, h3, h5⟩ := h
  exact .mk css h1 h2 h3 h4 h5
/-! ### families -/
theorem of_q {R : Hp} (op : Op) : QTri Try.prog 38 [.string (str op.str)] R [] (.int .i64 (fam op)) := by
  refine Tri.q ?_
  refine tri_of Try.func38 rfl Try.ntmps38 rfl (fun σ F Q hret hend hpan => ?_)
  try simp only [List.cons_append, List.nil_append]
  refine cj_env (eL 0 rfl eN) ?_
  refine cj_seq (fun K1 hK1 => ?_)
  refine cj_region ?_
  refine rv0 rfl rfl rfl (y_assign rfl) ?_
  refine rj_nil ?_
  refine hK1 _ _ _ ?_
  refine cj_seq (fun K2 hK2 => ?_)
  refine cj_seq (fun K3 hK3 => ?_)
  refine cj_region ?_
  refine rv0 rfl rfl rfl (y_move rfl) ?_
  refine rj_nil ?_
  refine hK3 _ _ _ ?_
  refine cj_block ?_
  refine cj_seq (fun K4 hK4 => ?_)
  refine cj_seq (fun K5 hK5 => ?_)
  refine cj_region ?_
  refine rv0 rfl rfl rfl (y_seql rfl rfl) ?_
  refine rv0 rfl rfl rfl (y_assign rfl) ?_
  refine rj_nil ?_
  refine hK5 _ _ _ ?_
  refine cj_env (eL 3 rfl (eL 4 rfl eN)) ?_
  refine cj_condt rfl (fun hc4 => ?_) (fun hc4 => ?_)
  ·try simp only [dT, dF, nT, nF, tF, fT] at hc4
   refine cj_skip ?_
   refine hK4 _ _ _ ?_
   refine cj_cond_t rfl ?_
   refine cj_seq (fun K7 hK7 => ?_)
   refine cj_region ?_
   refine rv0 rfl rfl rfl (y_assign rfl) ?_
   refine rj_nil ?_
   refine hK7 _ _ _ ?_
   refine cj_ret ?_
   refine hret _ _ _ ?_
   apply ej_ret Try.results38 (.cons (rv_tmp rfl) .nil) _ [] (by (first | exact Hp.le_refl _ | assumption | exact Hp.le_trans ‹_› ‹_›)) rfl
   case hp => refine ⟨?_, rfl, rfl⟩; cases op <;> first | rfl | (exfalso; simp [Op.str] at *)
   case hS => (repeat (first|exact zR _|(apply zP;focus (repeat (first|exact zH _|apply zT)))|apply zD|exact zA _ _))
  ·try simp only [dT, dF, nT, nF, tF, fT] at hc4
   refine cj_seq (fun K8 hK8 => ?_)
   refine cj_region ?_
   refine rv0 rfl rfl rfl (y_seql rfl rfl) ?_
   refine rv0 rfl rfl rfl (y_assign rfl) ?_
   refine rj_nil ?_
   refine hK8 _ _ _ ?_
   refine cj_condt rfl (fun hc4 => ?_) (fun hc4 => ?_)
   ·try simp only [dT, dF, nT, nF, tF, fT] at hc4
    refine cj_skip ?_
    refine hK4 _ _ _ ?_
    refine cj_cond_t rfl ?_
    refine cj_seq (fun K10 hK10 => ?_)
    refine cj_region ?_
    refine rv0 rfl rfl rfl (y_assign rfl) ?_
    refine rj_nil ?_
    refine hK10 _ _ _ ?_
    refine cj_env (eL 2 rfl eN) ?_
    refine cj_ret ?_
    refine hret _ _ _ ?_
    apply ej_ret Try.results38 (.cons (rv_tmp rfl) .nil) _ [] (by (first | exact Hp.le_refl _ | assumption | exact Hp.le_trans ‹_› ‹_›)) rfl
    case hp => refine ⟨?_, rfl, rfl⟩; cases op <;> first | rfl | (exfalso; simp [Op.str] at *)
    case hS => (repeat (first|exact zR _|(apply zP;focus (repeat (first|exact zH _|apply zT)))|apply zD|exact zA _ _))
   ·try simp only [dT, dF, nT, nF, tF, fT] at hc4
    refine cj_region ?_
    refine rv0 rfl rfl rfl (y_seql rfl rfl) ?_
    refine rv0 rfl rfl rfl (y_assign rfl) ?_
    refine rj_nil ?_
    refine hK4 _ _ _ ?_
    refine cj_condt rfl (fun hc4 => ?_) (fun hc4 => ?_)
    ·try simp only [dT, dF, nT, nF, tF, fT] at hc4
     refine cj_seq (fun K12 hK12 => ?_)
     refine cj_region ?_
     refine rv0 rfl rfl rfl (y_assign rfl) ?_
     refine rj_nil ?_
     refine hK12 _ _ _ ?_
     refine cj_env (eL 2 rfl eN) ?_
     refine cj_ret ?_
     refine hret _ _ _ ?_
     apply ej_ret Try.results38 (.cons (rv_tmp rfl) .nil) _ [] (by (first | exact Hp.le_refl _ | assumption | exact Hp.le_trans ‹_› ‹_›)) rfl
     case hp => refine ⟨?_, rfl, rfl⟩; cases op <;> first | rfl | (exfalso; simp [Op.str] at *)
     case hS => (repeat (first|exact zR _|(apply zP;focus (repeat (first|exact zH _|apply zT)))|apply zD|exact zA _ _))
    ·try simp only [dT, dF, nT, nF, tF, fT] at hc4
     refine cj_seq (fun K13 hK13 => ?_)
     refine cj_seq (fun K14 hK14 => ?_)
     refine cj_region ?_
     refine rv0 rfl rfl rfl (y_seql rfl rfl) ?_
     refine rv0 rfl rfl rfl (y_assign rfl) ?_
     refine rj_nil ?_
     refine hK14 _ _ _ ?_
     refine cj_env (eL 3 rfl (eL 8 rfl eN)) ?_
     refine cj_condt rfl (fun hc8 => ?_) (fun hc8 => ?_)
     ·try simp only [dT, dF, nT, nF, tF, fT] at hc8
      refine cj_skip ?_
      refine hK13 _ _ _ ?_
      refine cj_cond_t rfl ?_
      refine cj_seq (fun K16 hK16 => ?_)
      refine cj_region ?_
      refine rv0 rfl rfl rfl (y_assign rfl) ?_
      refine rj_nil ?_
      refine hK16 _ _ _ ?_
      refine cj_ret ?_
      refine hret _ _ _ ?_
      apply ej_ret Try.results38 (.cons (rv_tmp rfl) .nil) _ [] (by (first | exact Hp.le_refl _ | assumption | exact Hp.le_trans ‹_› ‹_›)) rfl
      case hp => refine ⟨?_, rfl, rfl⟩; cases op <;> first | rfl | (exfalso; simp [Op.str] at *)
      case hS => (repeat (first|exact zR _|(apply zP;focus (repeat (first|exact zH _|apply zT)))|apply zD|exact zA _ _))
     ·try simp only [dT, dF, nT, nF, tF, fT] at hc8
      refine cj_seq (fun K17 hK17 => ?_)
      refine cj_region ?_
      refine rv0 rfl rfl rfl (y_seql rfl rfl) ?_
      refine rv0 rfl rfl rfl (y_assign rfl) ?_
      refine rj_nil ?_
      refine hK17 _ _ _ ?_
      refine cj_condt rfl (fun hc8 => ?_) (fun hc8 => ?_)
      ·try simp only [dT, dF, nT, nF, tF, fT] at hc8
       refine cj_skip ?_
       refine hK13 _ _ _ ?_
       refine cj_cond_t rfl ?_
       refine cj_seq (fun K19 hK19 => ?_)
       refine cj_region ?_
       refine rv0 rfl rfl rfl (y_assign rfl) ?_
       refine rj_nil ?_
       refine hK19 _ _ _ ?_
       refine cj_env (eL 2 rfl eN) ?_
       refine cj_ret ?_
       refine hret _ _ _ ?_
       apply ej_ret Try.results38 (.cons (rv_tmp rfl) .nil) _ [] (by (first | exact Hp.le_refl _ | assumption | exact Hp.le_trans ‹_› ‹_›)) rfl
       case hp => refine ⟨?_, rfl, rfl⟩; cases op <;> first | rfl | (exfalso; simp [Op.str] at *)
       case hS => (repeat (first|exact zR _|(apply zP;focus (repeat (first|exact zH _|apply zT)))|apply zD|exact zA _ _))
      ·try simp only [dT, dF, nT, nF, tF, fT] at hc8
       refine cj_seq (fun K20 hK20 => ?_)
       refine cj_region ?_
       refine rv0 rfl rfl rfl (y_seql rfl rfl) ?_
       refine rv0 rfl rfl rfl (y_assign rfl) ?_
       refine rj_nil ?_
       refine hK20 _ _ _ ?_
       refine cj_condt rfl (fun hc8 => ?_) (fun hc8 => ?_)
       ·try simp only [dT, dF, nT, nF, tF, fT] at hc8
        refine cj_skip ?_
        refine hK13 _ _ _ ?_
        refine cj_cond_t rfl ?_
        refine cj_seq (fun K22 hK22 => ?_)
        refine cj_region ?_
        refine rv0 rfl rfl rfl (y_assign rfl) ?_
        refine rj_nil ?_
        refine hK22 _ _ _ ?_
        refine cj_env (eL 2 rfl eN) ?_
        refine cj_ret ?_
        refine hret _ _ _ ?_
        apply ej_ret Try.results38 (.cons (rv_tmp rfl) .nil) _ [] (by (first | exact Hp.le_refl _ | assumption | exact Hp.le_trans ‹_› ‹_›)) rfl
        case hp => refine ⟨?_, rfl, rfl⟩; cases op <;> first | rfl | (exfalso; simp [Op.str] at *)
        case hS => (repeat (first|exact zR _|(apply zP;focus (repeat (first|exact zH _|apply zT)))|apply zD|exact zA _ _))
       ·try simp only [dT, dF, nT, nF, tF, fT] at hc8
        refine cj_seq (fun K23 hK23 => ?_)
        refine cj_region ?_
        refine rv0 rfl rfl rfl (y_seql rfl rfl) ?_
        refine rv0 rfl rfl rfl (y_assign rfl) ?_
        refine rj_nil ?_
        refine hK23 _ _ _ ?_
        refine cj_env (eL 3 rfl (eL 8 rfl eN)) ?_
        refine cj_condt rfl (fun hc8 => ?_) (fun hc8 => ?_)
        ·try simp only [dT, dF, nT, nF, tF, fT] at hc8
         refine cj_skip ?_
         refine hK13 _ _ _ ?_
         refine cj_cond_t rfl ?_
         refine cj_seq (fun K25 hK25 => ?_)
         refine cj_region ?_
         refine rv0 rfl rfl rfl (y_assign rfl) ?_
         refine rj_nil ?_
         refine hK25 _ _ _ ?_
         refine cj_ret ?_
         refine hret _ _ _ ?_
         apply ej_ret Try.results38 (.cons (rv_tmp rfl) .nil) _ [] (by (first | exact Hp.le_refl _ | assumption | exact Hp.le_trans ‹_› ‹_›)) rfl
         case hp => refine ⟨?_, rfl, rfl⟩; cases op <;> first | rfl | (exfalso; simp [Op.str] at *)
         case hS => (repeat (first|exact zR _|(apply zP;focus (repeat (first|exact zH _|apply zT)))|apply zD|exact zA _ _))
        ·try simp only [dT, dF, nT, nF, tF, fT] at hc8
         refine cj_seq (fun K26 hK26 => ?_)
         refine cj_region ?_
         refine rv0 rfl rfl rfl (y_seql rfl rfl) ?_
         refine rv0 rfl rfl rfl (y_assign rfl) ?_
         refine rj_nil ?_
         refine hK26 _ _ _ ?_
         refine cj_condt rfl (fun hc8 => ?_) (fun hc8 => ?_)
         ·try simp only [dT, dF, nT, nF, tF, fT] at hc8
          refine cj_skip ?_
          refine hK13 _ _ _ ?_
          refine cj_cond_t rfl ?_
          refine cj_seq (fun K28 hK28 => ?_)
          refine cj_region ?_
          refine rv0 rfl rfl rfl (y_assign rfl) ?_
          refine rj_nil ?_
          refine hK28 _ _ _ ?_
          refine cj_env (eL 2 rfl eN) ?_
          refine cj_ret ?_
          refine hret _ _ _ ?_
          apply ej_ret Try.results38 (.cons (rv_tmp rfl) .nil) _ [] (by (first | exact Hp.le_refl _ | assumption | exact Hp.le_trans ‹_› ‹_›)) rfl
          case hp => refine ⟨?_, rfl, rfl⟩; cases op <;> first | rfl | (exfalso; simp [Op.str] at *)
          case hS => (repeat (first|exact zR _|(apply zP;focus (repeat (first|exact zH _|apply zT)))|apply zD|exact zA _ _))
         ·try simp only [dT, dF, nT, nF, tF, fT] at hc8
          refine cj_region ?_
          refine rv0 rfl rfl rfl (y_seql rfl rfl) ?_
          refine rv0 rfl rfl rfl (y_assign rfl) ?_
          refine rj_nil ?_
          refine hK13 _ _ _ ?_
          refine cj_condt rfl (fun hc8 => ?_) (fun hc8 => ?_)
          ·try simp only [dT, dF, nT, nF, tF, fT] at hc8
           refine cj_seq (fun K30 hK30 => ?_)
           refine cj_region ?_
           refine rv0 rfl rfl rfl (y_assign rfl) ?_
           refine rj_nil ?_
           refine hK30 _ _ _ ?_
           refine cj_env (eL 2 rfl eN) ?_
           refine cj_ret ?_
           refine hret _ _ _ ?_
           apply ej_ret Try.results38 (.cons (rv_tmp rfl) .nil) _ [] (by (first | exact Hp.le_refl _ | assumption | exact Hp.le_trans ‹_› ‹_›)) rfl
           case hp => refine ⟨?_, rfl, rfl⟩; cases op <;> first | rfl | (exfalso; simp [Op.str] at *)
           case hS => (repeat (first|exact zR _|(apply zP;focus (repeat (first|exact zH _|apply zT)))|apply zD|exact zA _ _))
          ·try simp only [dT, dF, nT, nF, tF, fT] at hc8
           refine cj_seq (fun K31 hK31 => ?_)
           refine cj_seq (fun K32 hK32 => ?_)
           refine cj_region ?_
           refine rv0 rfl rfl rfl (y_seql rfl rfl) ?_
           refine rv0 rfl rfl rfl (y_assign rfl) ?_
           refine rj_nil ?_
           refine hK32 _ _ _ ?_
           refine cj_env (eL 3 rfl (eL 15 rfl eN)) ?_
           refine cj_condt rfl (fun hc15 => ?_) (fun hc15 => ?_)
           ·try simp only [dT, dF, nT, nF, tF, fT] at hc15
            refine cj_skip ?_
            refine hK31 _ _ _ ?_
            refine cj_cond_t rfl ?_
            refine cj_seq (fun K34 hK34 => ?_)
            refine cj_region ?_
            refine rv0 rfl rfl rfl (y_assign rfl) ?_
            refine rj_nil ?_
            refine hK34 _ _ _ ?_
            refine cj_ret ?_
            refine hret _ _ _ ?_
            apply ej_ret Try.results38 (.cons (rv_tmp rfl) .nil) _ [] (by (first | exact Hp.le_refl _ | assumption | exact Hp.le_trans ‹_› ‹_›)) rfl
            case hp => refine ⟨?_, rfl, rfl⟩; cases op <;> first | rfl | (exfalso; simp [Op.str] at *)
            case hS => (repeat (first|exact zR _|(apply zP;focus (repeat (first|exact zH _|apply zT)))|apply zD|exact zA _ _))
           ·try simp only [dT, dF, nT, nF, tF, fT] at hc15
            refine cj_seq (fun K35 hK35 => ?_)
            refine cj_region ?_
            refine rv0 rfl rfl rfl (y_seql rfl rfl) ?_
            refine rv0 rfl rfl rfl (y_assign rfl) ?_
            refine rj_nil ?_
            refine hK35 _ _ _ ?_
            refine cj_condt rfl (fun hc15 => ?_) (fun hc15 => ?_)
            ·try simp only [dT, dF, nT, nF, tF, fT] at hc15
             refine cj_skip ?_
             refine hK31 _ _ _ ?_
             refine cj_cond_t rfl ?_
             refine cj_seq (fun K37 hK37 => ?_)
             refine cj_region ?_
             refine rv0 rfl rfl rfl (y_assign rfl) ?_
             refine rj_nil ?_
             refine hK37 _ _ _ ?_
             refine cj_env (eL 2 rfl eN) ?_
             refine cj_ret ?_
             refine hret _ _ _ ?_
             apply ej_ret Try.results38 (.cons (rv_tmp rfl) .nil) _ [] (by (first | exact Hp.le_refl _ | assumption | exact Hp.le_trans ‹_› ‹_›)) rfl
             case hp => refine ⟨?_, rfl, rfl⟩; cases op <;> first | rfl | (exfalso; simp [Op.str] at *)
             case hS => (repeat (first|exact zR _|(apply zP;focus (repeat (first|exact zH _|apply zT)))|apply zD|exact zA _ _))
            ·try simp only [dT, dF, nT, nF, tF, fT] at hc15
             refine cj_seq (fun K38 hK38 => ?_)
             refine cj_region ?_
             refine rv0 rfl rfl rfl (y_seql rfl rfl) ?_
             refine rv0 rfl rfl rfl (y_assign rfl) ?_
             refine rj_nil ?_
             refine hK38 _ _ _ ?_
             refine cj_condt rfl (fun hc15 => ?_) (fun hc15 => ?_)
             ·try simp only [dT, dF, nT, nF, tF, fT] at hc15
              refine cj_skip ?_
              refine hK31 _ _ _ ?_
              refine cj_cond_t rfl ?_
              refine cj_seq (fun K40 hK40 => ?_)
              refine cj_region ?_
              refine rv0 rfl rfl rfl (y_assign rfl) ?_
              refine rj_nil ?_
              refine hK40 _ _ _ ?_
              refine cj_env (eL 2 rfl eN) ?_
              refine cj_ret ?_
              refine hret _ _ _ ?_
              apply ej_ret Try.results38 (.cons (rv_tmp rfl) .nil) _ [] (by (first | exact Hp.le_refl _ | assumption | exact Hp.le_trans ‹_› ‹_›)) rfl
              case hp => refine ⟨?_, rfl, rfl⟩; cases op <;> first | rfl | (exfalso; simp [Op.str] at *)
              case hS => (repeat (first|exact zR _|(apply zP;focus (repeat (first|exact zH _|apply zT)))|apply zD|exact zA _ _))
             ·try simp only [dT, dF, nT, nF, tF, fT] at hc15
              refine cj_seq (fun K41 hK41 => ?_)
              refine cj_region ?_
              refine rv0 rfl rfl rfl (y_seql rfl rfl) ?_
              refine rv0 rfl rfl rfl (y_assign rfl) ?_
              refine rj_nil ?_
              refine hK41 _ _ _ ?_
              refine cj_env (eL 3 rfl (eL 15 rfl eN)) ?_
              refine cj_condt rfl (fun hc15 => ?_) (fun hc15 => ?_)
              ·try simp only [dT, dF, nT, nF, tF, fT] at hc15
               refine cj_skip ?_
               refine hK31 _ _ _ ?_
               refine cj_cond_t rfl ?_
               refine cj_seq (fun K43 hK43 => ?_)
               refine cj_region ?_
               refine rv0 rfl rfl rfl (y_assign rfl) ?_
               refine rj_nil ?_
               refine hK43 _ _ _ ?_
               refine cj_ret ?_
               refine hret _ _ _ ?_
               apply ej_ret Try.results38 (.cons (rv_tmp rfl) .nil) _ [] (by (first | exact Hp.le_refl _ | assumption | exact Hp.le_trans ‹_› ‹_›)) rfl
               case hp => refine ⟨?_, rfl, rfl⟩; cases op <;> first | rfl | (exfalso; simp [Op.str] at *)
               case hS => (repeat (first|exact zR _|(apply zP;focus (repeat (first|exact zH _|apply zT)))|apply zD|exact zA _ _))
              ·try simp only [dT, dF, nT, nF, tF, fT] at hc15
               refine cj_seq (fun K44 hK44 => ?_)
               refine cj_region ?_
               refine rv0 rfl rfl rfl (y_seql rfl rfl) ?_
               refine rv0 rfl rfl rfl (y_assign rfl) ?_
               refine rj_nil ?_
               refine hK44 _ _ _ ?_
               refine cj_condt rfl (fun hc15 => ?_) (fun hc15 => ?_)
               ·try simp only [dT, dF, nT, nF, tF, fT] at hc15
                refine cj_skip ?_
                refine hK31 _ _ _ ?_
                refine cj_cond_t rfl ?_
                refine cj_seq (fun K46 hK46 => ?_)
                refine cj_region ?_
                refine rv0 rfl rfl rfl (y_assign rfl) ?_
                refine rj_nil ?_
                refine hK46 _ _ _ ?_
                refine cj_env (eL 2 rfl eN) ?_
                refine cj_ret ?_
                refine hret _ _ _ ?_
                apply ej_ret Try.results38 (.cons (rv_tmp rfl) .nil) _ [] (by (first | exact Hp.le_refl _ | assumption | exact Hp.le_trans ‹_› ‹_›)) rfl
                case hp => refine ⟨?_, rfl, rfl⟩; cases op <;> first | rfl | (exfalso; simp [Op.str] at *)
                case hS => (repeat (first|exact zR _|(apply zP;focus (repeat (first|exact zH _|apply zT)))|apply zD|exact zA _ _))
               ·try simp only [dT, dF, nT, nF, tF, fT] at hc15
                refine cj_region ?_
                refine rv0 rfl rfl rfl (y_seql rfl rfl) ?_
                refine rv0 rfl rfl rfl (y_assign rfl) ?_
                refine rj_nil ?_
                refine hK31 _ _ _ ?_
                refine cj_condt rfl (fun hc15 => ?_) (fun hc15 => ?_)
                ·try simp only [dT, dF, nT, nF, tF, fT] at hc15
                 refine cj_seq (fun K48 hK48 => ?_)
                 refine cj_region ?_
                 refine rv0 rfl rfl rfl (y_assign rfl) ?_
                 refine rj_nil ?_
                 refine hK48 _ _ _ ?_
                 refine cj_env (eL 2 rfl eN) ?_
                 refine cj_ret ?_
                 refine hret _ _ _ ?_
                 apply ej_ret Try.results38 (.cons (rv_tmp rfl) .nil) _ [] (by (first | exact Hp.le_refl _ | assumption | exact Hp.le_trans ‹_› ‹_›)) rfl
                 case hp => refine ⟨?_, rfl, rfl⟩; cases op <;> first | rfl | (exfalso; simp [Op.str] at *)
                 case hS => (repeat (first|exact zR _|(apply zP;focus (repeat (first|exact zH _|apply zT)))|apply zD|exact zA _ _))
                ·try simp only [dT, dF, nT, nF, tF, fT] at hc15
                 refine cj_seq (fun K49 hK49 => ?_)
                 refine cj_region ?_
                 refine rv0 rfl rfl rfl (y_seql rfl rfl) ?_
                 refine rv0 rfl rfl rfl (y_assign rfl) ?_
                 refine rj_nil ?_
                 refine hK49 _ _ _ ?_
                 refine cj_env (eL 3 rfl (eL 22 rfl eN)) ?_
                 refine cj_condt rfl (fun hc22 => ?_) (fun hc22 => ?_)
                 ·try simp only [dT, dF, nT, nF, tF, fT] at hc22
                  refine cj_seq (fun K51 hK51 => ?_)
                  refine cj_region ?_
                  refine rv0 rfl rfl rfl (y_assign rfl) ?_
                  refine rj_nil ?_
                  refine hK51 _ _ _ ?_
                  refine cj_ret ?_
                  refine hret _ _ _ ?_
                  apply ej_ret Try.results38 (.cons (rv_tmp rfl) .nil) _ [] (by (first | exact Hp.le_refl _ | assumption | exact Hp.le_trans ‹_› ‹_›)) rfl
                  case hp => refine ⟨?_, rfl, rfl⟩; cases op <;> first | rfl | (exfalso; simp [Op.str] at *)
                  case hS => (repeat (first|exact zR _|(apply zP;focus (repeat (first|exact zH _|apply zT)))|apply zD|exact zA _ _))
                 ·try simp only [dT, dF, nT, nF, tF, fT] at hc22
                  refine cj_seq (fun K52 hK52 => ?_)
                  refine cj_seq (fun K53 hK53 => ?_)
                  refine cj_region ?_
                  refine rv0 rfl rfl rfl (y_seql rfl rfl) ?_
                  refine rv0 rfl rfl rfl (y_assign rfl) ?_
                  refine rj_nil ?_
                  refine hK53 _ _ _ ?_
                  refine cj_condt rfl (fun hc24 => ?_) (fun hc24 => ?_)
                  ·try simp only [dT, dF, nT, nF, tF, fT] at hc24
                   refine cj_skip ?_
                   refine hK52 _ _ _ ?_
                   refine cj_env (eL 24 rfl eN) ?_
                   refine cj_cond_t rfl ?_
                   refine cj_seq (fun K55 hK55 => ?_)
                   refine cj_region ?_
                   refine rv0 rfl rfl rfl (y_assign rfl) ?_
                   refine rj_nil ?_
                   refine hK55 _ _ _ ?_
                   refine cj_ret ?_
                   refine hret _ _ _ ?_
                   apply ej_ret Try.results38 (.cons (rv_tmp rfl) .nil) _ [] (by (first | exact Hp.le_refl _ | assumption | exact Hp.le_trans ‹_› ‹_›)) rfl
                   case hp => refine ⟨?_, rfl, rfl⟩; cases op <;> first | rfl | (exfalso; simp [Op.str] at *)
                   case hS => (repeat (first|exact zR _|(apply zP;focus (repeat (first|exact zH _|apply zT)))|apply zD|exact zA _ _))
                  ·try simp only [dT, dF, nT, nF, tF, fT] at hc24
                   refine cj_seq (fun K56 hK56 => ?_)
                   refine cj_region ?_
                   refine rv0 rfl rfl rfl (y_seql rfl rfl) ?_
                   refine rv0 rfl rfl rfl (y_assign rfl) ?_
                   refine rj_nil ?_
                   refine hK56 _ _ _ ?_
                   refine cj_env (eL 3 rfl (eL 24 rfl eN)) ?_
                   refine cj_condt rfl (fun hc24 => ?_) (fun hc24 => ?_)
                   ·try simp only [dT, dF, nT, nF, tF, fT] at hc24
                    refine cj_skip ?_
                    refine hK52 _ _ _ ?_
                    refine cj_cond_t rfl ?_
                    refine cj_seq (fun K58 hK58 => ?_)
                    refine cj_region ?_
                    refine rv0 rfl rfl rfl (y_assign rfl) ?_
                    refine rj_nil ?_
                    refine hK58 _ _ _ ?_
                    refine cj_ret ?_
                    refine hret _ _ _ ?_
                    apply ej_ret Try.results38 (.cons (rv_tmp rfl) .nil) _ [] (by (first | exact Hp.le_refl _ | assumption | exact Hp.le_trans ‹_› ‹_›)) rfl
                    case hp => refine ⟨?_, rfl, rfl⟩; cases op <;> first | rfl | (exfalso; simp [Op.str] at *)
                    case hS => (repeat (first|exact zR _|(apply zP;focus (repeat (first|exact zH _|apply zT)))|apply zD|exact zA _ _))
                   ·try simp only [dT, dF, nT, nF, tF, fT] at hc24
                    refine cj_seq (fun K59 hK59 => ?_)
                    refine cj_region ?_
                    refine rv0 rfl rfl rfl (y_seql rfl rfl) ?_
                    refine rv0 rfl rfl rfl (y_assign rfl) ?_
                    refine rj_nil ?_
                    refine hK59 _ _ _ ?_
                    refine cj_condt rfl (fun hc24 => ?_) (fun hc24 => ?_)
                    ·try simp only [dT, dF, nT, nF, tF, fT] at hc24
                     refine cj_skip ?_
                     refine hK52 _ _ _ ?_
                     refine cj_cond_t rfl ?_
                     refine cj_seq (fun K61 hK61 => ?_)
                     refine cj_region ?_
                     refine rv0 rfl rfl rfl (y_assign rfl) ?_
                     refine rj_nil ?_
                     refine hK61 _ _ _ ?_
                     refine cj_env (eL 2 rfl eN) ?_
                     refine cj_ret ?_
                     refine hret _ _ _ ?_
                     apply ej_ret Try.results38 (.cons (rv_tmp rfl) .nil) _ [] (by (first | exact Hp.le_refl _ | assumption | exact Hp.le_trans ‹_› ‹_›)) rfl
                     case hp => refine ⟨?_, rfl, rfl⟩; cases op <;> first | rfl | (exfalso; simp [Op.str] at *)
                     case hS => (repeat (first|exact zR _|(apply zP;focus (repeat (first|exact zH _|apply zT)))|apply zD|exact zA _ _))
                    ·try simp only [dT, dF, nT, nF, tF, fT] at hc24
                     refine cj_region ?_
                     refine rv0 rfl rfl rfl (y_seql rfl rfl) ?_
                     refine rv0 rfl rfl rfl (y_assign rfl) ?_
                     refine rj_nil ?_
                     refine hK52 _ _ _ ?_
                     refine cj_env (eL 24 rfl eN) ?_
                     refine cj_condt rfl (fun hc24 => ?_) (fun hc24 => ?_)
                     ·try simp only [dT, dF, nT, nF, tF, fT] at hc24
                      refine cj_seq (fun K63 hK63 => ?_)
                      refine cj_region ?_
                      refine rv0 rfl rfl rfl (y_assign rfl) ?_
                      refine rj_nil ?_
                      refine hK63 _ _ _ ?_
                      refine cj_ret ?_
                      refine hret _ _ _ ?_
                      apply ej_ret Try.results38 (.cons (rv_tmp rfl) .nil) _ [] (by (first | exact Hp.le_refl _ | assumption | exact Hp.le_trans ‹_› ‹_›)) rfl
                      case hp => refine ⟨?_, rfl, rfl⟩; cases op <;> first | rfl | (exfalso; simp [Op.str] at *)
                      case hS => (repeat (first|exact zR _|(apply zP;focus (repeat (first|exact zH _|apply zT)))|apply zD|exact zA _ _))
                     ·try simp only [dT, dF, nT, nF, tF, fT] at hc24
                      refine cj_skip ?_
                      refine hK2 _ _ _ ?_
                      refine cj_seq (fun K64 hK64 => ?_)
                      refine cj_region ?_
                      refine rv0 rfl rfl rfl (y_assign rfl) ?_
                      refine rj_nil ?_
                      refine hK64 _ _ _ ?_
                      refine cj_ret ?_
                      refine hret _ _ _ ?_
                      apply ej_ret Try.results38 (.cons (rv_tmp rfl) .nil) _ [] (by (first | exact Hp.le_refl _ | assumption | exact Hp.le_trans ‹_› ‹_›)) rfl
                      case hp => refine ⟨?_, rfl, rfl⟩; cases op <;> first | rfl | (exfalso; simp [Op.str] at *)
                      case hS => (repeat (first|exact zR _|(apply zP;focus (repeat (first|exact zH _|apply zT)))|apply zD|exact zA _ _))
theorem exIndex_t {R : Hp} (g : FuncId) (l : List Ex) (v : Value) (hl : FrX exE R l v) (p : Ex → Bool) (hc_g : ∀ args w, (callFunc g args).run Try.prog w = .ok (.enter g args) w)
    (hcall : ∀ x cs, x ∈ l → RepX R x cs → QTri Try.prog g [.agg ⟨cs⟩] R [] (.bool (p x))) :
    Tri Try.prog 56 [v, .func (.func g) ⟨[]⟩ ⟨[]⟩] R []
      (fun v R' L' => R = R' ∧ (∃ z : Int, v = .int .i64 z ∧ (z ≥ 0 ↔ l.any p = true)) ∧ L' = []) := by
  obtain ⟨q, cap, rfl, hcap, hcm⟩ := hl.shape
  have hlb : l.length ≤ maxLen := Nat.le_trans hcap hcm
  unfold maxLen at hlb
  refine tri_of Try.func56 rfl Try.ntmps56 rfl (fun σ F Q hret hend hpan => ?_)
  try simp only [List.cons_append, List.nil_append]
  refine cj_env (eL 0 rfl (eL 1 rfl eN)) ?_
  refine cj_seq (fun K1 hK1 => ?_)
  refine cj_region ?_
  refine rv0 rfl rfl rfl (y_assign rfl) ?_
  refine rj_nil ?_
  refine hK1 _ _ _ ?_
  refine cj_seq (fun K2 hK2 => ?_)
  refine cj_seq (fun K3 hK3 => ?_)
  refine cj_region ?_
  refine rv0 rfl rfl rfl (y_move rfl) ?_
  first | refine rv0 rfl rfl rfl (y_len_sl Try.underlying27 rfl) ?_ | refine rv0 rfl rfl rfl (y_len_slc Try.underlying27 rfl (by (repeat (first|exact zH _|apply zT));done)) ?_
  refine rv0 rfl rfl rfl (y_move rfl) ?_
  refine rj_nil ?_
  refine hK3 _ _ _ ?_
  refine cj_block ?_
  refine cj_env (E' := (fun (x : Nat) => [(0, .slice q l.length cap), (1, .func (.func g) ⟨[]⟩ ⟨[]⟩), (7, .int .i64 (l.length : Int)), (8, .int .i64 (x : Int))]) 0) (eC rfl (eC rfl (eC rfl (eC rfl eN)))) ?_
  refine cj_sub (M := (fun (x : Nat) => F) 0) (by (repeat (first|exact zR _|(apply zP;focus (repeat (first|exact zH _|apply zT)))|apply zD|exact zA _ _))) ?_
  refine cj_loop (fun (x : Nat) => [(0, .slice q l.length cap), (1, .func (.func g) ⟨[]⟩ ⟨[]⟩), (7, .int .i64 (l.length : Int)), (8, .int .i64 (x : Int))]) (fun (x : Nat) => R) (fun (x : Nat) => F) (fun (x : Nat) => x ≤ l.length ∧ (l.take x).any p = false) (fun (x : Nat) => l.length - x) 0 (⟨by simp, by simp⟩) ?_
  rintro i ⟨hi, hall⟩
  try dsimp only
  refine cj_seq (fun K4 hK4 => ?_)
  refine cj_region ?_
  refine rv0 rfl rfl rfl (y_lss rfl rfl) ?_
  refine rj_nil ?_
  refine hK4 _ _ _ ?_
  refine cj_seq (fun K5 hK5 => ?_)
  refine cj_cond rfl (fun hc9 => ?_) (fun hc9 => ?_)
  ·try simp only [dT, dF, nT, nF, tF, fT] at hc9
   refine cj_skip ?_
   refine hK5 _ _ _ ?_
   refine cj_seq (fun K7 hK7 => ?_)
   refine cj_block ?_
   refine cj_seq (fun K8 hK8 => ?_)
   refine cj_region ?_
   obtain ⟨x, hx⟩ : ∃ x, l[i]? = some x := ⟨l[i]'(by omega), by simp⟩
   obtain ⟨b, off, cap', cs, he, hrep, hcl, hcell⟩ := hl.at hx
   obtain ⟨rfl, rfl⟩ : q = some ⟨b, off, none⟩ ∧ cap = cap' := by cases he; exact ⟨rfl, rfl⟩
   refine rv0 rfl rfl rfl (y_move rfl) ?_
   refine rv0 rfl rfl rfl (y_assign rfl) ?_
   refine rj_nil ?_
   refine hK8 _ _ _ ?_
   refine cj_seq (fun K9 hK9 => ?_)
   refine cj_region ?_
   refine rv0 rfl rfl rfl (y_move rfl) ?_
   refine rv0 rfl rfl rfl (y_move rfl) ?_
   refine rv0 rfl rfl rfl (y_move rfl) ?_
   first | refine rv0 rfl rfl rfl (y_indexAddr Try.underlying27 Try.sizeOf29 rfl rfl (by (first | omega | (dsimp only; omega) | (simp; done) | (simp; omega)))) ?_ | refine rv0 rfl rfl rfl (y_index_slc Try.underlying27 Try.sizeOf29 rfl rfl (by (repeat (first|exact zH _|apply zT));done) (by (first | omega | (dsimp only; omega) | (simp; done) | (simp; omega)))) ?_
   refine rv0 rfl rfl rfl ((y_loads_ro ⟨Try.isAgg29, Try.sizeOf29⟩ (vs := cs) hcl rfl (fun j u hj => hcell j u hj))) ?_
   refine rv0 rfl rfl rfl (y_callv rfl hc_g rfl (hcall x cs (List.mem_of_getElem? hx) hrep) (by (repeat (first|exact zN _|(apply zS;focus (repeat (first|exact zH _|apply zT))))))) ?_
   refine rj_nil ?_
   refine hK9 _ _ _ ?_
   refine cj_env (eL 0 rfl (eL 1 rfl (eL 5 rfl (eL 7 rfl (eL 8 rfl (eL 16 rfl eN)))))) ?_
   refine cj_cond rfl (fun hc16 => ?_) (fun hc16 => ?_)
   ·try simp only [dT, dF, nT, nF, tF, fT] at hc16
    refine cj_seq (fun K11 hK11 => ?_)
    refine cj_region ?_
    refine rv0 rfl rfl rfl (y_move rfl) ?_
    refine rv0 rfl rfl rfl (y_assign rfl) ?_
    refine rj_nil ?_
    refine hK11 _ _ _ ?_
    refine cj_env (eL 4 rfl eN) ?_
    refine cj_ret ?_
    refine hret _ _ _ ?_
    apply ej_ret Try.results56 (.cons (rv_tmp rfl) .nil) _ [] (by (first | exact Hp.le_refl _ | assumption | exact Hp.le_trans ‹_› ‹_›)) rfl
    case hp => refine ⟨rfl, ⟨_, rfl, ?_⟩, rfl⟩; simp; exact ⟨x, List.mem_of_getElem? hx, hc16⟩
    case hS => (repeat (first|exact zR _|(apply zP;focus (repeat (first|exact zH _|apply zT)))|apply zD|exact zA _ _))
   ·try simp only [dT, dF, nT, nF, tF, fT] at hc16
    refine cj_skip ?_
    refine hK7 _ _ _ ?_
    refine cj_region ?_
    first | refine rv0 rfl rfl rfl (y_add64 rfl rfl (by (first | omega | (dsimp only; omega) | (simp; done) | (simp; omega)))) ?_ | refine rv0 rfl rfl rfl (y_add rfl rfl) ?_
    refine rv0 rfl rfl rfl (y_move rfl) ?_
    refine rj_nil ?_
    refine ej_on (q' := roundK _ _ _ _ _ _ _) rfl ?_
    refine ej_round (i + 1) (⟨by omega, by rw [List.take_add_one, hx]; simp [hall, hc16]⟩) (by omega) (eC rfl (eC rfl (eC rfl (eC rfl eN)))) rfl (by (repeat (first|exact zR _|(apply zP;focus (repeat (first|exact zH _|apply zT)))|apply zD|exact zA _ _)))
  ·try simp only [dT, dF, nT, nF, tF, fT] at hc9
   refine cj_exit ?_
   refine hK2 _ _ _ ?_
   refine cj_env eN ?_
   refine cj_seq (fun K12 hK12 => ?_)
   refine cj_region ?_
   refine rv0 rfl rfl rfl (y_assign rfl) ?_
   refine rj_nil ?_
   refine hK12 _ _ _ ?_
   refine cj_ret ?_
   refine hret _ _ _ ?_
   apply ej_ret Try.results56 (.cons (rv_tmp rfl) .nil) _ [] (by (first | exact Hp.le_refl _ | assumption | exact Hp.le_trans ‹_› ‹_›)) rfl
   case hp => refine ⟨rfl, ⟨_, rfl, ?_⟩, rfl⟩; rw [List.take_of_length_le (by omega)] at hall; rw [hall]; simp
   case hS => (repeat (first|exact zR _|(apply zP;focus (repeat (first|exact zH _|apply zT)))|apply zD|exact zA _ _))
end V
end Go.Proofs.Ytghgifgmacapcaa
