/- Parts: V T7a. -/
import Derived.Tactics
import Derived.Deep.Quiet
import Derived.Laws.AppendOwn
import Derived.Laws.AppendOwnNone
import Derived.Laws.OwnMore
import Derived.Laws.NewBlocks
import Derived.Laws.Rows
import Derived.Laws.Slices
import Derived.WalkKit
import Derived.Laws.DeepStrings4
import Derived.Lib.Strings
import Derived.Laws.Pointers
import Derived.Laws.Small
import Derived.Laws.LoneSync
import Derived.Laws.IdiomStrings
import Derived.ProofKit
import Derived.ChangeOld
import Derived.Below
import Derived.OpenShut
import Derived.Test.YtenfjpigffjgmaaGreatRows
import Derived.ShutString
import Derived.Orders
import Derived.Deep.AppendSrc
import Derived.Lib.Builder
import Derived.Lib.UnsafeStr
import Derived.Laws.Cover3
import Derived.Laws.StructEq
import Derived.Test.YtenfjpigffjgmaaGreatProg
import Derived.KernelRfl
set_option linter.defProp false
set_option linter.unusedSimpArgs false
set_option linter.unusedVariables false
namespace Go.Proofs.YtenfjpigffjgmaaGreat
open Go.RowKit
namespace V
def ac:=@if_neg
def an:=@if_pos
def b7:=@List.getElem?_eq_getElem
def Gj:=@List.getElem?_eq_some_iff
def Gk:=@Int.le_refl
def Gl:=@Nat.le_refl
def Gm:=@List.length_append
def Gn:=@List.mem_cons
def Gp:=@Tryz.underlying109
def Gq:=@Tryz.underlying150
def Gr:=@absurd
def Gs:=@List.not_mem_nil
def Gt:=@List.getD_eq_getElem?_getD
def Gu:=@List.mem_map
def Gv:=@List.mem_of_getElem?
def Gw:=@Tryz.sizeOf36
def Gx:=@List.take_of_length_le
def Gy:=@Tryz.underlying148
def Gz:=@Nat.le_of_ble_eq_true
def GA:=@List.append_assoc
def GC:=@Tryz.underlying111
def GD:=@List.length_cons
def GE:=@List.mem_append
def GF:=@Tryz.underlying117
def GG:=@List.getElem?_append_left
def GK:=@Tryz.zeroValue150
def GL:=@Array.getD_eq_getD_getElem?
def GM:=@congrArg
def GN:=@Tryz.underlying76
def GO:=@List.mem_singleton
def GP:=@Bool.false_eq_true
def GQ:=@Tryz.sizeOf3
def GR:=@Tryz.underlying75
def GT:=@List.mem_append_left
def GU:=@Option.some.inj
def GX:=@List.length_take
def GY:=@List.getElem?_append_right
def GZ:=@Tryz.underlying9
def G4:=@Nat.add_mul
def G6:=@Bool.and_eq_true
def G7:=@or_false
def G8:=@Tryz.underlying125
def G9:=@Array.getElem?_eq_some_iff
def Ha:=@List.take_append_of_le_length
def Hb:=@List.nodup_append
def Hc:=@Int.toNat_natCast
def Hd:=@List.take_take
def He:=@Nat.zero_le
def Hf:=@List.map_cons
def Hg:=@Int.le_trans
def Hh:=@List.length_drop
def Hi:=@Option.some.injEq
def Hj:=@Nat.min_eq_left
def Hk:=@List.eq_nil_of_length_eq_zero
def Hm:=@List.all_eq_true
def Hn:=@Nat.le_trans
def Ho:=@List.getElem?_eq_none
def Hq:=@Tryz.underlying87
def Hr:=@List.nil_append
def Ht:=@Array.getElem?_eq_getElem
def Hu:=@Int.eq_ofNat_of_zero_le
def Hv:=@Nat.mul_le_mul_right
def Hw:=@Nat.lt_of_lt_of_le
def Hx:=@List.mem_of_mem_drop
def Hy:=@List.length_set
def Hz:=@List.getElem?_set_self
def HA:=@Tryz.underlying3
def HB:=@Tryz.sizeOf150
def HC:=@List.getElem?_set_ne
def HD:=@List.getElem?_map
def HE:=@Eq.refl
def HF:=@List.getElem?_drop
def HG:=@List.take_append_drop
def HH:=@List.mem_append_right
def HI:=@Tryz.underlying80
def HJ:=@Tryz.underlying42
def HK:=@Nat.lt_or_ge
def HL:=@List.drop_drop
def HM:=@Nat.lt_succ_self
def HN:=@Tryz.underlying5
def HO:=@Tryz.sizeOf55
def HP:=@Tryz.sizeOf148
def HQ:=@Nat.add_assoc
def HR:=@decide_eq_true_eq
def HS:=@List.getElem?_take
def HT:=@Tryz.underlying174
def HU:=@Tryz.underlying78
def HV:=@List.take_add_one
def HW:=@List.cons_append
def HX:=@Bool.not_eq_true'
def HY:=@List.append_nil
def HZ:=@Bool.or_eq_true
def H2:=@Tryz.zeroValue93
def H3:=@ite_false
def H4:=@Nat.zero_add
def H5:=@List.drop_append_of_le_length
def H6:=@Tryz.underlying209
def H7:=@ite_true
def H8:=@List.length_map
def H9:=@List.mem_cons_of_mem
def Ia:=@Tryz.zeroValue117
def Ib:=@Tryz.underlying36
def Ic:=@Tryz.sizeOf9
def Id:=@List.nodup_cons
def Ie:=@List.map_append
def If:=@List.prefix_refl
def Ig:=@Tryz.underlying123
def Ih:=@Tryz.underlying113
def Ii:=@Tryz.underlying90
def Ij:=@List.getElem_of_mem
def Ik:=@List.mem_iff_getElem?
def Il:=@Tryz.sizeOf4
def In:=@Nat.pow_succ
def Io:=@List.sum_cons
def Ip:=@Tryz.underlying53
def Iq:=@Sem.run_bind
def Ir:=@List.ext_getElem?
def Is:=@Nat.eq_of_beq_eq_true
def It:=@List.foldl_cons
def Iu:=@Tryz.sizeOf76
def Iv:=@Result.andThen_ok
def Iw:=@List.flatten_cons
def Ix:=@List.drop_eq_nil_of_le
def Iy:=@Tryz.sizeOf93
def Iz:=@Array.getElem?_toList
def IA:=@Bool.true_eq_false
def IB:=@Tryz.underlying93
def IC:=@Tryz.underlying161
def ID:=@Tryz.underlying115
def IE:=@List.length_eq_zero_iff
def IF:=@List.getElem?_set
def IG:=@List.mem_filter
def IH:=@List.cons.injEq
def II:=@Tryz.sizeOf78
def IJ:=@Tryz.underlying81
def IK:=@funext
def IL:=@Tryz.sizeOf3
def IM:=@List.drop_of_length_le
def IN:=@Tryz.zeroValue36
def IP:=@Tryz.underlying207
def IQ:=@Tryz.underlying105
def IR:=@Tryz.underlying9
def IS:=@decide_eq_true
def IT:=@Tryz.sizeOf123
def IU:=@List.take_prefix_take_left
def IV:=@Int.tmod_eq_emod_of_nonneg
def IW:=@List.mem_or_eq_of_mem_set
def IX:=@Tryz.sizeOf75
def IY:=@of_decide_eq_true
def IZ:=@Sem.run_pure
def I0:=@Nat.mul_comm
def I1:=@List.mem_of_mem_take
def I2:=@Int.le_of_eq
def I3:=@List.getElem?_take_of_lt
def I4:=@Tryz.results177
def I5:=@Tryz.underlying123
def I6:=@Option.map_eq_some_iff
def I7:=@Nat.add_zero
def I8:=@MapKept.run_getObj_map
def I9:=@List.prefix_append
def Ja:=@Tryz.results73
def Jb:=@Array.getElem?_modify
def Jc:=@Nat.mul_le_mul
def Jd:=@Tryz.underlying88
def Je:=@Tryz.sizeOf207
def Jf:=@Tryz.results21
def Jg:=@Nat.mod_eq_of_lt
def Jh:=@List.take_prefix
def Ji:=@List.take_length
def Jj:=@List.pairwise_iff_getElem
def Jk:=@Nat.mul_le_mul_left
def Jl:=@Tryz.sizeOf42
def Jm:=@Option.isSome_iff_exists
def Jo:=@List.length_erase_of_mem
def Jp:=@List.eq_of_mem_replicate
def Jq:=@Tryz.results182
def Jr:=@Tryz.results145
def Js:=@Nat.eq_zero_or_pos
def Jt:=@List.pairwise_cons
def Ju:=@Tryz.zeroValue78
def Jv:=@Nat.add_sub_cancel_left
def Jw:=@List.prefix_iff_eq_take
def Jx:=@List.getElem?_replicate
def Jy:=@Tryz.underlying55
def Jz:=@Tryz.call24
def JA:=@Tryz.sizeOf4
def JB:=@Oper.wp_mono
def JC:=@List.drop_zero
def JD:=@List.eraseIdx_eq_take_drop_succ
def JE:=@List.sizeOf_lt_of_mem
def JF:=@List.countP_eq_length
def JG:=@List.countP_cons
def JH:=@Tryz.underlying187
def JI:=@Tryz.underlying107
def JK:=@Tryz.sizeOf56
def JL:=@Prod.ext
def JM:=@Nat.pow_le_pow_right
def JN:=@MapKept.run_checkKey
def JO:=@Tryz.call60
def JP:=@Option.map_some
def JQ:=@List.range_succ
def JR:=@List.nil_prefix
def JS:=@MapKept.run_findKey
def JT:=@List.mergeSort_perm
def JU:=@Tryz.underlying98
def JV:=@Tryz.underlying56
def JW:=@Tryz.underlying34
def JX:=@List.map_map
def JY:=@Tryz.results103
def JZ:=@List.countP_append
def J0:=@List.append_of_mem
def J1:=@Int.tdiv_eq_ediv_of_nonneg
def J2:=@Int.lt_or_eq_of_le
def J4:=@Int.lt_of_lt_of_le
def J5:=@Int.emod_lt_of_pos
def J6:=@Array.ext'
def J7:=@List.getElem?_eq_none_iff
def J8:=@List.drop_eq_getElem_cons
def J9:=@Tryz.underlying83
def J':=@Tryz.call95
def Ka:=@Array.getElem?_replicate
def Kb:=@Tryz.sizeOf138
def Kc:=@IT
def Kd:=@Tryz.sizeOf113
def Ke:=@Tryz.results68
def Kf:=@Tryz.results10
def Kg:=@Tryz.underlying3
def Kh:=@Oper.wp_of_quiet
def Ki:=@List.pairwise_mergeSort
def Kj:=@List.getElem_mem
def Kk:=@Tryz.zeroValue5
def Kl:=@Tryz.underlying39
def Km:=@Tryz.underlying26
def Kn:=@Tryz.underlying23
def Ko:=@Tryz.results136
def Kp:=@Tryz.call33
def Kq:=@UInt8.toNat_inj
def Ks:=@Tryz.results107
def Kt:=@Int.natCast_mul
def Ku:=@Int.max_eq_left
def Kv:=@Int.le_antisymm
def Kw:=@Int.emod_nonneg
def Kx:=@List.getElem?_zipWith
def Ky:=@List.contains_iff_mem
def Kz:=@Tryz.sizeOf88
def KA:=@Tryz.sizeOf83
def KB:=@Tryz.call23
def KC:=@Src.ofSlice
def KD:=@Nat.mul_add
def KE:=@List.mem_range
def KF:=@Eq.trans
def KG:=@Classical.not_forall
def KH:=@Tryz.sizeOf107
def KI:=@Tryz.results98
def KJ:=@Value.pointer.injEq
def KL:=@List.take_succ_cons
def KM:=@List.countP_eq_zero
def KN:=@Array.length_toList
def KO:=@Tryz.underlying205
def KP:=@Prod.mk.injEq
def KQ:=@Addr.mk.injEq
def KR:=@Tryz.zeroValue3
def KS:=@Tryz.results180
def KT:=@Tryz.results116
def KU:=@Tryz.call37
def KV:=@List.findIdx?_eq_some_iff_getElem
def KW:=@Tryz.sizeOf85
def KX:=@Tryz.results3
def KY:=@List.map_set
def KZ:=@List.foldl_append
def K0:=@Int.le_total
def Lc:=@List.prefix_of_prefix_length_le
def Ld:=@Array.getElem?_setIfInBounds_ne
def Le:=@Tryz.results99
def Lf:=@Tryz.results87
def Lg:=@Tryz.results79
def Lh:=@Tryz.results77
def Li:=@Tryz.results75
def Lj:=@Tryz.results43
def Lk:=@Tryz.results41
def Ll:=@cond_true
def Ln:=@Option.getD_some
def Lo:=@List.take_append
def Lq:=@List.mem_flatten
def Lr:=@List.isEmpty_iff
def Lt:=@Int.max_eq_right
def Lu:=@Nat.succ_le_iff
def Lv:=@List.length_nil
def Lw:=@Tryz.sizeOf5
def Lx:=@Tryz.call146
def Ly:=@Nat.two_pow_add_eq_or_of_lt
def Lz:=@Tryz.results122
def LA:=@Tryz.results101
def LC:=@not_or
def LE:=@Tryz.call74
def LF:=@Tryz.call25
def LH:=@True.intro
def LI:=@List.nodup_iff_pairwise_ne
def LJ:=@List.length_eraseIdx_of_lt
def LK:=@List.drop_left
def LL:=@Calls.mono
def LM:=@List.findIdx?_eq_none_iff
def LN:=@Tryz.underlying138
def LO:=@List.mem_of_mem_eraseIdx
def LP:=@List.Perm.eq_of_pairwise
def LQ:=@DataW.trod_lt
def LR:=@Tryz.sizeOf161
def LS:=@Tryz.sizeOf117
def LU:=@Tryz.results80
def LV:=@Tryz.results78
def LX:=@Tryz.results62
def LY:=@Tryz.results56
def LZ:=@Tryz.results54
def L4:=@Tryz.results52
def L5:=@Tryz.results36
def L6:=@List.length_eraseIdx_le
def L7:=@Tryz.zeroValue138
def L8:=@Tryz.zeroValue111
def L9:=@Tryz.underlying74
def Ma:=@Tryz.underlying66
def Mb:=@Tryz.underlying41
def Mc:=@Tryz.call97
def Md:=@Tryz.call62
def Me:=@Tryz.call59
def Mf:=@Tryz.call40
def Mg:=@Tryz.call28
def Mh:=@Tryz.call22
def Mi:=@Tryz.call115
def Mj:=@Tryz.call107
def Mk:=@Ne.symm
def Ml:=@Nat.sub_zero
def Mm:=@Nat.ne_of_beq_eq_false
def Mn:=@Nat.div_div_eq_div_mul
def Mo:=@MapKept.run_setObj_map
def Mp:=@List.length_pos_of_mem
def Mq:=@Nat.div_lt_iff_lt_mul
def Mr:=@List.set_append_right
def Ms:=@List.mem_of_mem_erase
def Mt:=@List.length_singleton
def Mu:=@List.cons_prefix_cons
def Mv:=@Tryz.zeroValue41
def Mw:=@Tryz.sizeOf98
def Mx:=@Tryz.sizeOf81
def My:=@Tryz.sizeOf66
def Mz:=@Tryz.sizeOf34
def MA:=@and_true
def MC:=@Nat.pow_mul
def MD:=@Nat.one_mul
def ME:=@MapKept.findNow_spec
def MF:=@List.mem_erase_of_ne
def MG:=@BitVec.ofInt_natCast
def MH:=@List.drop_succ_cons
def MJ:=@Tryz.zeroValue9
def MK:=@Tryz.results179
def ML:=@Tryz.results175
def MM:=@Tryz.results173
def MN:=@Tryz.results123
def MO:=@Tryz.results117
def MP:=@Tryz.results115
def MQ:=@of_decide_eq_false
def MR:=@Tryz.call90
def MT:=@Tryz.call38
def MX:=@Tryz.call29
def MY:=@beq_iff_eq
def MZ:=@Or.imp
def M0:=@Nat.one_le_two_pow
def M1:=@Nat.mod_lt
def M2:=@List.set_cons_succ
def M3:=@List.mem_replicate
def M4:=@Bool.not_eq_false'
def M5:=@BitVec.toNat_ofNat
def M6:=@Below.trod
def M7:=@Below.heap_setCell
variable{x y:Operand}{n m i:Int}{w σ:World}{b off d t id j sz:Nat}{v:Value}{k k':IntKind}{vs l args:List Value}{P:Program}{f:FuncId}{o:Oper}{xs:List Operand}{ts:Array TypeId}{cs:Array Value}{s:Code}{fs:List Field}{rs:List ResultVar}
abbrev Hp:=Nat->Option Obj
variable{R a c:Hp}
abbrev Qj:=Hp->Prop
variable{L M pre F:List Qj}{A:Qj}
def Hp.le(h g:Hp):Prop:=∀b o,h b=some o->g b=some o
def Hp.dis(h g:Hp):Prop:=∀b,h b=none\/g b=none
def Hp.emp:Hp:=λ_=>none
def Hp.un(h g:Hp):Hp:=λb=>(h b).or (g b)
def Hp.le_refl(h:Hp):h.le h:=λ_ _ e=>e
def Hp.le_trans{b:Hp}(h:a.le b)(k:b.le c):a.le c:=λx o e=>k x o (h x o e)
def Hp.dis_symm{b:Hp}(h:a.dis b):b.dis a:=λx=>(h x).symm
def Hp.dis_le{b:Hp}(h:a.dis b)(k:c.le b):a.dis c:=λx=>by
 rcases h x with e|e;.exact .inl e
 refine .inr ?_;cases hc:c x with
 |none=>rfl
 |some o=>have:=k x o hc;rw[e]at this;cases this
def Hp.le_un_left(a b:Hp):a.le (a.un b):=λx o e=>by simp[Hp.un,e]
def Hp.le_un_right{b:Hp}(h:a.dis b):b.le (a.un b):=λx o e=>by
 rcases h x with k|k;.simp[Hp.un,k,e]
 rw[e]at k;cases k
def Hp.un_le{b:Hp}(h:a.le c)(k:b.le c):(a.un b).le c:=λx o e=>by
 simp only[Hp.un]at e;cases ha:a x with
 |none=>rw[ha]at e;exact k x o e
 |some q=>rw[ha]at e;simp only[Option.or]at e;cases e;exact h x _ ha
def Hp.dis_un{b:Hp}(h:a.dis b)(k:a.dis c):a.dis (b.un c):=λx=>by
 rcases h x with e|e;.exact .inl e
 rcases k x with e'|e';.exact .inl e'
 exact .inr (by simp[Hp.un,e,e'])
def Hp.cell(h:Hp)(a:Addr):Option Value:=
 match h a.block with
 |some (.cells c _ _)=>if a.spot.isSome then none else c[a.off]?
 |_=>none
def stars:List Qj->Hp->Prop
 |[],_=>True
 |A::L,h=>∃h1 h2:Hp,h1.le h/\h2.le h/\h1.dis h2/\A h1/\stars L h2
def iC{h g:Hp}(k:h.le g)(s:stars L h):stars L g:=by
 cases L with
 |nil=>trivial
 |cons A L=>obtain⟨h1,h2,a,b,c,d,e⟩:=s;exact⟨h1,h2,Hp.le_trans a k,Hp.le_trans b k,c,d,e⟩
inductive Find (A:Qj):List Qj->List Qj->Prop
 |head (L:List Qj):Find A (A::L) L
 |tail {B:Qj} {L M:List Qj}:Find A L M->Find A (B::L) (B::M)
def Find.stars(f:Find A L M):∀{h:Hp},stars L h->stars (A::M) h:=by
 induction f with
 |head L=>exact λs=>s
 |tail f ih=>
  rintro h ⟨h1,h2,a,b,c,d,e⟩;let⟨k1,k2,a',b',c',d',e'⟩:=ih e;have hd:k1.dis h1:=Hp.dis_symm (Hp.dis_le c a')
  exact⟨k1,h1.un k2,Hp.le_trans a' b,Hp.un_le a (Hp.le_trans b' b),Hp.dis_un hd c',d',
   ⟨h1,k2,Hp.le_un_left _ _,Hp.le_un_right (Hp.dis_le c b'),Hp.dis_le c b',d,e'⟩⟩
def Find.back(f:Find A L M):∀{h:Hp},V.stars (A::M) h->V.stars L h:=by
 induction f with
 |head L=>exact λs=>s
 |tail f ih=>
  rintro h ⟨k1,k2,a,b,c,d,⟨h1,k3,a',b',c',d',e'⟩⟩;refine⟨h1,k1.un k3,Hp.le_trans a' b,Hp.un_le a (Hp.le_trans b' b),Hp.dis_un (Hp.dis_symm (Hp.dis_le c a')) c',d',ih ⟨k1,k3,Hp.le_un_left _ _,Hp.le_un_right (Hp.dis_le c b'),Hp.dis_le c b',d,e'⟩⟩
inductive Sub:List Qj->List Qj->Prop
 |refl (L:List Qj):Sub L L
 |pick {A:Qj} {L L1 M:List Qj}:Find A L L1->Sub L1 M->Sub L (A::M)
 |drop {A:Qj} {L M:List Qj}:Sub L M->Sub (A::L) M
def Sub.stars{L M:List Qj}(s:Sub L M):∀{h:Hp},V.stars L h->V.stars M h:=by
 induction s with
 |refl L=>exact λs=>s
 |pick f _ ih=>intro h s;let⟨h1,h2,a,b,c,d,e⟩:=f.stars s;exact⟨h1,h2,a,b,c,d,ih e⟩
 |drop _ ih=>rintro h ⟨h1,h2,a,b,c,d,e⟩;exact ih (iC b e)
def zH(L:List Qj):Find A (A::L) L:=.head L
def zT{B:Qj}(h:Find A L M):Find A (B::L) (B::M):=.tail h
def zR(L:List Qj):Sub L L:=.refl L
def zP{L1:List Qj}(h:Find A L L1)(k:Sub L1 M):Sub L (A::M):=.pick h k
def zD(h:Sub L M):Sub (A::L) M:=.drop h
structure Sat (σ:World) (R:Hp) (L:List Qj) (w:World):Prop where
 os:w.os=σ.os
 tape:w.tape=σ.tape
 output:w.output=σ.output
 ro:∀b o,R b=some o->w.heap[b]?=some o
 own:∃h:Hp,(∀b o,h b=some o->w.heap[b]?=some o)/\h.dis R/\stars L h
def Sat.sub(s:Sub L M)(h:Sat σ R L w):Sat σ R M w:=
 ⟨h.os,h.tape,h.output,h.ro,let⟨g,a,b,c⟩:=h.own;⟨g,a,b,s.stars c⟩⟩
def Sat.find(f:Find A L M)(h:Sat σ R L w):Sat σ R (A::M) w:=
 ⟨h.os,h.tape,h.output,h.ro,let⟨g,a,b,c⟩:=h.own;⟨g,a,b,f.stars c⟩⟩
def Sat.drew(h:Sat σ R L w):Sat σ R L w.drew:=⟨h.os,h.tape,h.output,h.ro,h.own⟩
def Sat.turn{B:Qj}(k:∀h,A h->B h)(s:Sat σ R (A::L) w):Sat σ R (B::L) w:=
 ⟨s.os,s.tape,s.output,s.ro,let⟨g,a,b,h1,h2,c⟩:=s.own;⟨g,a,b,h1,h2,c.1,c.2.1,c.2.2.1,k _ c.2.2.2.1,c.2.2.2.2⟩⟩
def si(b:Nat)(cs:Array Value)(e:TypeId):Qj:=λh=>h b=some (.cells cs e (0,0))
def Sat.pts_heap{e:TypeId}(s:Sat σ R (si b cs e::L) w):w.heap[b]?=some (.cells cs e (0,0)):=by
 let⟨g,a,_,h1,h2,c⟩:=s.own;exact a _ _ (c.1 _ _ c.2.2.2.1)
def Sat.put{w':World}{o o':Obj}(s:Sat σ R ((λh=>h b=some o)::L) w)
  (h1:w'.os=w.os) (h2:w'.tape=w.tape) (h3:w'.output=w.output) (h4:∀k,k≠b->k<w.heap.size->w'.heap[k]?=w.heap[k]?) (h5:w'.heap[b]?=some o'):Sat σ R ((λh=>h b=some o')::L) w':=by
 let⟨g,a,d,g1,g2,c1,c2,c3,c4,c5⟩:=s.own;have hb:∀k q,R k=some q->k≠b:=by
  rintro k q hk rfl;rcases d k with e|e
  .rw[c1 _ _ c4]at e;cases e
  rw[hk]at e;cases e
 have h2b:g2 b=none:=by
  rcases c3 b with e|e;.rw[c4]at e;cases e
  exact e
 have lt:∀k q,w.heap[k]?=some q->k<w.heap.size:=λk q hk=>(G9.1 hk).1;refine⟨h1.trans s.os,h2.trans s.tape,h3.trans s.output,λk q hk=>?_,(λk=>if k=b then some o' else g2 k),?_,?_,(λk=>if k=b then some o' else none),g2,?_,?_,?_,by simp,c5⟩;.have:=s.ro k q hk;rw[h4 k (hb k q hk) (lt _ _ this)];exact this
 .intro k q hk;simp only at hk;split at hk;.rename_i e;subst e;rw[h5];exact hk
  rename_i e;have:=a _ _ (c2 _ _ hk);rw[h4 k e (lt _ _ this)];exact this
 .intro k;simp only;split
  .rename_i e;subst e;refine .inr ?_;cases hk:R k with
   |none=>rfl
   |some q=>exact Gr rfl (hb k q hk)
  cases hk:g2 k with
  |none=>exact .inl rfl
  |some q=>
   rcases d k with e|e;.rw[c2 _ _ hk]at e;cases e
   exact .inr e
 .intro k q hk;simp only at hk|-;split at hk;.rename_i e;rw[an e];exact hk
  cases hk
 .intro k q hk;have:k≠b:=by rintro rfl;rw[h2b]at hk;cases hk
  simp[ac this];exact hk
 intro k;simp only;split;.rename_i e;subst e;exact .inr h2b
 exact .inl rfl
def Sat.set{e:TypeId}(v:Value)(s:Sat σ R (si b cs e::L) w):
  Sat σ R (si b (cs.setIfInBounds off v) e::L) (w.setCell ⟨b,off,none⟩ v):=by
 have hb:=s.pts_heap;refine Sat.put (o:=.cells cs e (0,0)) s rfl rfl rfl (λk hk _=>M7 _ _ _ _ hk) ?_;simp only[World.setCell,Jb,hb];simp
def Sat.setRow{e:TypeId}(cs':Array Value)(s:Sat σ R (si b cs e::L) w):
  Sat σ R (si b cs' e::L) (w.setRow b cs'):=by
 have hb:=s.pts_heap;exact Sat.put (o:=.cells cs e (0,0)) s rfl rfl rfl (λk hk _=>setRow_other w b k _ hk) (setRow_heap w b cs cs' e _ hb)
def Sat.alloc{σ:World}{R:Hp}{L:List Qj}{w:World}(o:Obj)(s:Sat σ R L w):Sat σ R ((λh=>h w.heap.size=some o)::L) (w.alloc o):=by
 let⟨g,a,d,c⟩:=s.own;have lt:∀k q,w.heap[k]?=some q->k<w.heap.size:=λk q hk=>(G9.1 hk).1;have old:∀k q,w.heap[k]?=some q->(w.alloc o).heap[k]?=some q:=λk q hk=>by rw[Below.heap_alloc _ _ _ (lt _ _ hk)];exact hk
 have hg:g w.heap.size=none:=by
  cases hk:g w.heap.size with
  |none=>rfl
  |some q=>exact Gr (lt _ _ (a _ _ hk)) (by omega)
 refine⟨s.os,s.tape,s.output,λk q hk=>old _ _ (s.ro _ _ hk),(λk=>if k=w.heap.size then some o else g k),?_,?_,(λk=>if k=w.heap.size then some o else none),g,?_,?_,?_,by simp,c⟩
 .intro k q hk;simp only at hk;split at hk;.rename_i e;subst e;cases hk;exact heap_alloc_new _ _
  exact old _ _ (a _ _ hk)
 .intro k;simp only;split
  .rename_i e;subst e;refine .inr ?_;cases hk:R w.heap.size with
   |none=>rfl
   |some q=>exact Gr (lt _ _ (s.ro _ _ hk)) (by omega)
  exact d k
 .intro k q hk;simp only at hk|-;split at hk;.rename_i e;rw[an e];exact hk
  cases hk
 .intro k q hk;have:k≠w.heap.size:=by rintro rfl;rw[hg]at hk;cases hk
  simp[ac this];exact hk
 intro k;simp only;split;.rename_i e;subst e;exact .inr hg
 exact .inl rfl
def Sat.freeze(s:Sat σ R (A::L) w):∃R':Hp,R.le R'/\(∃h:Hp,h.le R'/\A h)/\Sat σ R' L w:=by
 let⟨g,a,d,g1,g2,c1,c2,c3,c4,c5⟩:=s.own;refine⟨R.un g1,Hp.le_un_left _ _,⟨g1,Hp.le_un_right (Hp.dis_le (Hp.dis_symm d) c1),c4⟩,s.os,s.tape,s.output,?_,g2,λb o h=>a _ _ (c2 _ _ h),?_,c5⟩
 .intro b o hb;simp only[Hp.un]at hb;cases hr:R b with
  |none=>rw[hr]at hb;exact a _ _ (c1 _ _ hb)
  |some q=>rw[hr]at hb;simp only[Option.or]at hb;cases hb;exact s.ro _ _ hr
 exact Hp.dis_un (Hp.dis_symm (Hp.dis_le (Hp.dis_symm d) c2)) (Hp.dis_symm c3)
abbrev Env:=List (Nat×Value)
variable{E E':Env}
def lk:Env->Nat->Option Value
 |[],_=>none
 |(i,v)::E,t=>cond (Nat.beq i t) (some v) (lk E t)
def ev(E:Env):Operand->Option Value
 | .tmp t=>lk E t
 | .const v=>some v
 | .global g=>some (.pointer (some ⟨g,0,none⟩))
 | .func f=>some (.func (.func f) #[] #[])
def dT{p:Prop}[Decidable p]:(decide p=true)=p:=HR
def dF{p:Prop}[Decidable p]:(decide p=false)↔¬p:=decide_eq_false_iff_not
def nT{b:Bool}:((!b)=true)=(b=false):=HX b
def nF{b:Bool}:((!b)=false)=(b=true):=M4 b
def tF:(true=false)=False:=IA
def fT:(false=true)=False:=GP
structure Fr (n:Nat) (E:Env) (a:Act):Prop where
 size:a.tmps.size=n
 dfs:a.defers=[]
 get:∀t v,lk E t=some v->a.tmps.getD t undef=v
def Fr.ev{n:Nat}{a:Act}(h:Fr n E a)(e:V.ev E x=some v):a.eval x=v:=by
 cases x with
 |tmp t=>exact h.get _ _ e
 |const v=>exact GU e
 |global g=>exact GU e
 |func f=>exact GU e
def Fr.put{n:Nat}{E:Env}{a:Act}(h:Fr n E a){d:Nat}(hd:Nat.blt d n=true)(v:Value):Fr n ((d,v)::E) (a.put (some d) v):=by
 have hd':d<a.tmps.size:=by rw[h.size];simpa[Nat.blt,Lu]using hd
 refine⟨by simp[Act.put,h.size],h.dfs,λt u e=>?_⟩;simp only[lk]at e;cases hb:Nat.beq d t with
 |true=>
  rw[hb]at e;obtain rfl:d=t:=Is hb;simp only[Ll,Hi]at e;subst e;simp[Act.put,GL,hd']
 |false=>
  rw[hb]at e;have hne:d≠t:=Mm hb;have:=h.get t u e;simp only[Act.put];rw[GL,Ld hne,<-GL];exact this
def Env.le(E' E:Env):Prop:=∀t v,lk E' t=some v->lk E t=some v
def Env.le_nil(E:Env):Env.le [] E:=λ_ _ h=>by cases h
def Env.le_cons(h:lk E t=some v)(k:Env.le E' E):Env.le ((t,v)::E') E:=λu x e=>by
 simp[lk]at e;cases hb:Nat.beq t u with
 |true=>rw[hb]at e;obtain rfl:=Is hb;exact h.trans e
 |false=>rw[hb]at e;exact k u x e
def eL(t:Nat)(h:lk E t=some v)(k:Env.le E' E):Env.le ((t,v)::E') E:=Env.le_cons h k
def eC(h:lk E t=some v)(k:Env.le E' E):Env.le ((t,v)::E') E:=Env.le_cons h k
def eN:Env.le [] E:=Env.le_nil E
def Fr.le{n:Nat}{a:Act}(h:Fr n E a)(k:Env.le E' E):Fr n E' a:=⟨h.size,h.dfs,λt v e=>h.get t v (k t v e)⟩
def g6(ops:Array Oper)(j:Nat):Option Tmp:=(ops[j]?).bind (·.dst)
def Fr.yielded{n:Nat}{E:Env}{a:Act}(h:Fr n E a){ops:Array Oper}{j t:Nat}{b:Bool}(hd:g6 ops j=some t)(ht:Nat.blt t n=true)(e:lk E t=some (.bool b)):yielded ops a.tmps j=some b:=by
 have h1:=h.get t _ e;have ht':t<a.tmps.size:=by rw[h.size];simpa[Nat.blt,Lu]using ht
 rw[GL,Ht ht']at h1;simp[Ln]at h1;unfold g6 at hd;simp[Go.yielded,hd,Ht ht',h1]
structure Cx where
 P:Program
 n:Nat
 σ:World
def Yld(c:Cx)(E:Env)(R:Hp)(L:List Qj)(o:Oper)(v:Value):Prop:=
 ∀(a:Act) (w:World),Fr c.n E a->Sat c.σ R L w->Oper.quietUpon c.P (Sat c.σ R L) w v ((execOp a.eval o).run c.P w)
def RJ(c:Cx)(ops:Array Oper)(Q:Exit->Act->World->Prop)(l:List Oper)(E:Env)(R:Hp)(L:List Qj):Prop:=
 ∀(a:Act) (w:World),Fr c.n E a->Sat c.σ R L w->wpList c.P ops Q l a w
def QJ(c:Cx)(ops:Array Oper)(R:Hp)(L:List Qj)(K:Act->Prop)(l:List Oper)(E:Env):Prop:=
 ∀(a:Act),Fr c.n E a->wpQuiet c.P ops (Sat c.σ R L) K l a
def CJ(c:Cx)(x:Code)(Q:Exit->Act->World->Prop)(E:Env)(R:Hp)(L:List Qj):Prop:=
 ∀(a:Act) (w:World),Fr c.n E a->Sat c.σ R L w->x.wp c.P Q a w
def EJ(c:Cx)(Q:Act->World->Prop)(E:Env)(R:Hp)(L:List Qj):Prop:=
 ∀(a:Act) (w:World),Fr c.n E a->Sat c.σ R L w->Q a w
section
variable{c:Cx}{ops:Array Oper}{Q:Exit->Act->World->Prop}{E:Env}{R:Hp}{L:List Qj}{o:Oper}{rest:List Oper}{v:Value}
def Wn(c:Cx)(ops:Array Oper)(E:Env)(o:Oper)(b:Bool):Prop:=∀a,Fr c.n E a->Region.wanted o (yielded ops a.tmps)=b
def Qo(h:o.guard=none:=by exact rfl):Wn c ops E o true:=λ_ _=>by simp[Region.wanted,h]
def cP{b:Bool}(h:o.guard=some (j,b))(hd:g6 ops j=some t:=by exact rfl)(ht:Nat.blt t c.n=true:=by exact rfl)(e:lk E t=some (.bool b):=by exact rfl):Wn c ops E o true:=
 λa hf=>by simp[Region.wanted,h,hf.yielded hd ht e]
def AK{b b':Bool}(h:o.guard=some (j,b))(hd:g6 ops j=some t)(ht:Nat.blt t c.n=true)(e:lk E t=some (.bool b'))(hb:b'= !b):Wn c ops E o false:=
 λa hf=>by subst hb;simp[Region.wanted,h,hf.yielded hd ht e]
def Zx{b:Bool}(h:o.guard=some (j,b):=by exact rfl)(hd:g6 ops j=some t:=by exact rfl)(ht:Nat.blt t c.n=true:=by exact rfl)(e:lk E t=some undef:=by exact rfl):Wn c ops E o false:=
 λa hf=>by
  have h1:=hf.get t _ e;have ht':t<a.tmps.size:=by rw[hf.size];simpa[Nat.blt,Lu]using ht
  rw[GL,Ht ht']at h1;simp[Ln]at h1;unfold g6 at hd;simp[Region.wanted,h,yielded,hd,Ht ht',h1,undef]
def tJ{a:Act}{K:Act->World->Prop}(hf:Fr c.n E a)(hs:Sat c.σ R L w)(y:Yld c E R L o v)
  (h:∀w',Sat c.σ R L w'->K (a.put o.dst v) w'):o.wp c.P a w K Q:=
 Kh (C:=Sat c.σ R L) (K:=λa'=>a'=a.put o.dst v) hs (λa' w' hw' ha'=>by subst ha';exact h w' hw') ⟨v,λw hw=>y a w hf hw,rfl⟩
def vK(hw:Wn c ops E o true)(hd:o.dst=some d)(hn:Nat.blt d c.n=true)(y:Yld c E R L o v)
  (h:RJ c ops Q rest ((d,v)::E) R L):RJ c ops Q (o::rest) E R L:=by
 intro a w hf hs;unfold wpList;rw[an (hw a hf)];exact .inl (tJ hf hs y λw' hs'=>h _ _ (by rw[hd];exact hf.put hn v) hs')
def DR(hw:o.guard=none)(hd:o.dst=some d)(hn:Nat.blt d c.n=true)(y:Yld c E R L o v)
  (h:RJ c ops Q rest ((d,v)::E) R L):RJ c ops Q (o::rest) E R L:=vK (Qo hw) hd hn y h
def Xp(hw:Wn c ops E o false)(hd:o.dst=some d)(hn:Nat.blt d c.n=true)
  (h:RJ c ops Q rest ((d,undef)::E) R L):RJ c ops Q (o::rest) E R L:=by
 intro a w hf hs;unfold wpList;rw[ac (by rw[hw a hf];decide)];exact h _ _ (by rw[hd];exact hf.put hn _) hs
def Qd(h:EJ c (Q .normal) E R L):RJ c ops Q [] E R L:=λa w hf hs=>h a w hf hs
def QM{l:List Oper}(t:Nat){b:Bool}(e:lk E t=some (.bool b))(ht:b=true->RJ c ops Q l ((t,.bool true)::E) R L)
  (hf:b=false->RJ c ops Q l ((t,.bool false)::E) R L):RJ c ops Q l E R L:=by
 intro a w ha hs;cases b with
 |true=>exact ht rfl a w (ha.le (Env.le_cons e λ_ _ h=>h)) hs
 |false=>exact hf rfl a w (ha.le (Env.le_cons e λ_ _ h=>h)) hs
def Xx{l:List Oper}(t:Nat){v v':Value}(e:lk E t=some v)(hv:v=v')(h:RJ c ops Q l ((t,v')::E) R L):RJ c ops Q l E R L:=
 λa w ha hs=>h a w (ha.le (Env.le_cons (e.trans (by rw[hv])) λ_ _ h=>h)) hs
section
variable{K:Act->Prop}
def vZ(hw:Wn c ops E o true)(hd:o.dst=some d)(hn:Nat.blt d c.n=true)(y:Yld c E R L o v)
  (h:QJ c ops R L K rest ((d,v)::E)):QJ c ops R L K (o::rest) E:=by
 intro a hf;unfold wpQuiet;rw[an (hw a hf)];exact⟨v,λw hs=>y a w hf hs,h _ (by rw[hd];exact hf.put hn v)⟩
def B8(hw:Wn c ops E o false)(hd:o.dst=some d)(hn:Nat.blt d c.n=true)
  (h:QJ c ops R L K rest ((d,undef)::E)):QJ c ops R L K (o::rest) E:=by
 intro a hf;unfold wpQuiet;rw[ac (by rw[hw a hf];decide)];exact h _ (by rw[hd];exact hf.put hn _)
def Xj(h:EJ c (Q .normal) E R L):QJ c ops R L (λa'=>∀w',Sat c.σ R L w'->Q .normal a' w') [] E:=λ_ hf _ hs=>h _ _ hf hs
def ZM{l:List Oper}(t:Nat){b:Bool}(e:lk E t=some (.bool b))(ht:b=true->QJ c ops R L K l ((t,.bool true)::E))
  (hf:b=false->QJ c ops R L K l ((t,.bool false)::E)):QJ c ops R L K l E:=by
 intro a ha;cases b with
 |true=>exact ht rfl a (ha.le (Env.le_cons e λ_ _ h=>h))
 |false=>exact hf rfl a (ha.le (Env.le_cons e λ_ _ h=>h))
end
def Qc{l:List Oper}(h:RJ c l.toArray Q l E R L):CJ c (.region id l.toArray false) Q E R L:=
 λa w hf hs=>wp_region_lit (h a w hf hs)
def C6{l:List Oper}(hm:c.P.follows .mixedOrders=true)(hB:Region.lexB .any l.toArray=true)
  (h:QJ c l.toArray R L (λa'=>∀w',Sat c.σ R L w'->Q .normal a' w') l E):CJ c (.region id l.toArray true) Q E R L:=
 λa w hf hs=>wp_region_quiet (C:=Sat c.σ R L) hm hB hs.drew (h a hf)
def XN{x y:Code}(h:∀K:Act->World->Prop,(∀E R L,CJ c y Q E R L->EJ c K E R L)->CJ c x (Exit.then K Q) E R L):CJ c (.seq x y) Q E R L:=
 λa w hf hs=>wp_seq (h (λa w=>y.wp c.P Q a w) (λ_ _ _ k a w ha hw=>k a w ha hw) a w hf hs)
def Qh(h:EJ c (Q .normal) E R L):CJ c .skip Q E R L:=λa w hf hs=>wp_skip (h a w hf hs)
def QG(h:EJ c (Q (.exit id)) E R L):CJ c (.exit id) Q E R L:=λa w hf hs=>wp_exit (h a w hf hs)
def Qg(h:EJ c (Q .ret) E R L):CJ c .ret Q E R L:=λa w hf hs=>wp_ret (h a w hf hs)
def Qp{x:Code}(h:CJ c x (Exit.inBlock id Q) E R L):CJ c (.block id x) Q E R L:=λa w hf hs=>wp_block (h a w hf hs)
def Qi{t:Code}{b:Bool}(e:ev E x=some (.bool b))(hs:b=true->CJ c s Q E R L)(ht:b=false->CJ c t Q E R L):CJ c (.cond x s t) Q E R L:=by
 intro a w hf hw;cases b with
 |true=>exact wp_cond_true (hf.ev e) (hs rfl a w hf hw)
 |false=>exact wp_cond_false (hf.ev e) (ht rfl a w hf hw)
def QD{t:Code}(e:ev E x=some (.bool true))(hs:CJ c s Q E R L):CJ c (.cond x s t) Q E R L:=
 λa w hf hw=>wp_cond_true (hf.ev e) (hs a w hf hw)
def Qt{t:Code}(e:ev E x=some (.bool false))(ht:CJ c t Q E R L):CJ c (.cond x s t) Q E R L:=
 λa w hf hw=>wp_cond_false (hf.ev e) (ht a w hf hw)
def gF{x:Code}(k:Env.le E' E)(h:CJ c x Q E' R L):CJ c x Q E R L:=λa w ha hs=>h a w (ha.le k) hs
def FN{x:Code}(t:Nat){v v':Value}(e:lk E t=some v)(hv:v=v')(h:CJ c x Q ((t,v')::E) R L):CJ c x Q E R L:=
 λa w ha hs=>h a w (ha.le (Env.le_cons (e.trans (by rw[hv])) λ_ _ h=>h)) hs
def gE{x:Code}(k:Sub L M)(h:CJ c x Q E R M):CJ c x Q E R L:=λa w ha hs=>h a w ha (hs.sub k)
def dL{ι:Type}(c:Cx)(E:ι->Env)(R:ι->Hp)(L:ι->List Qj)(I:ι->Prop)(m:ι->Nat)(x:ι)(a:Act)(w:World):Prop:=
 ∃y,I y/\m y<m x/\Fr c.n (E y) a/\Sat c.σ (R y) (L y) w
def g7{x:Code}{ι:Type}(E:ι->Env)(R:ι->Hp)(L:ι->List Qj)(I:ι->Prop)(m:ι->Nat)(x0:ι)(h0:I x0)
  (h:∀y,I y->CJ c x (Exit.then (dL c E R L I m y) Q) (E y) (R y) (L y)):CJ c (.loop x) Q (E x0) (R x0) (L x0):=by
 intro a w hf hs;intro b kk cs;have key:∀(k:Nat) (y:ι) (a:Act) (w:World),m y=k->I y->Fr c.n (E y) a->Sat c.σ (R y) (L y) w->
   ∃e a' w',Q e a' w'/\Arrives c.P (lone (b.at a (.code x:: .inLoop x::kk)) cs w) b kk cs e a' w':=by
  intro k
  induction k using Nat.strongRecOn with
  |_ k ih=>
   intro y a w hk hI hf hs
   let⟨e,a1,w1,hq,harr⟩:=h y hI a w hf hs b (.inLoop x::kk) cs
   cases e with
   |normal=>
    let⟨z,hz,hlt,hfz,hsz⟩:=hq
    let⟨e2,a2,w2,hq2,harr2⟩:=ih (m z) (hk▸hlt) z a1 w1 rfl hz hfz hsz
    exact⟨e2,a2,w2,hq2,.of_steps (Steps.trans harr (.one step_inLoop)) harr2⟩
   |exit id=>exact⟨_,a1,w1,hq,.pass (x:=.inLoop x) rfl (λ_ _=>.inl (by simp)) harr⟩
   |goto l=>exact⟨_,a1,w1,hq,.pass (x:=.inLoop x) rfl (λ_ _=>.inl (by simp)) harr⟩
   |ret=>exact⟨_,a1,w1,hq,.pass (x:=.inLoop x) rfl (λ_ _=>.inl (by simp)) harr⟩
   |panic ch=>exact⟨_,a1,w1,hq,.pass (x:=.inLoop x) rfl (λ_ _=>.inl (by simp)) harr⟩
   |outgrown=>exact⟨_,a1,w1,hq,.pass (x:=.inLoop x) rfl (λ_ _=>.inl (by simp)) harr⟩
 let⟨e,a',w',hq,harr⟩:=key _ x0 a w rfl h0 hf hs;exact⟨e,a',w',hq,.of_steps (.one step_loop) harr⟩
def pY{x:Code}(h:CJ c x (Exit.then (λ_ _=>False) Q) E R L):CJ c (.loop x) Q E R L:=
 λa w hf hs=>wp_loop_once (h a w hf hs)
def Gi{q q':Act->World->Prop}(k:q'=q)(h:EJ c q' E R L):EJ c q E R L:=k▸h
def qP{q:Act->World->Prop}{ι:Sort _}{E0:ι->Env}{R0:ι->Hp}{L0:ι->List Qj}{I:ι->Prop}(h:∀y,I y->EJ c q (E0 y) (R0 y) (L0 y))(y:ι)(hI:I y)
  (he:Env.le (E0 y) E) (hR:R0 y=R) (hL:Sub L (L0 y)):EJ c q E R L:=
 λa w ha hs=>h y hI a w (ha.le he) (by rw[hR];exact hs.sub hL)
def fe{ι:Type}{E0:ι->Env}{R0:ι->Hp}{L0:ι->List Qj}{I:ι->Prop}{m:ι->Nat}{x:ι}(y:ι)(hI:I y)(hm:m y<m x)
  (he:Env.le (E0 y) E) (hR:R0 y=R) (hL:Sub L (L0 y)):EJ c (dL c E0 R0 L0 I m x) E R L:=
 λ_ _ ha hs=>⟨y,hI,hm,ha.le he,by rw[hR];exact hs.sub hL⟩
end
section
variable{c:Cx}{E:Env}{R:Hp}{L:List Qj}{d:Option Tmp}{ty:TypeId}{p:String}{af:Array Edge}{g:Option (Nat×Bool)}
def Qf(e:ev E x=some v:=by exact rfl):Yld c E R L ⟨d,.move x,ty,p,af,g⟩ v:=
 λa w hf _=>by simp only[execOp,IZ,Oper.quietUpon];exact⟨trivial,hf.ev e⟩
def Xs(e:ev E x=some v:=by exact rfl):Yld c E R L ⟨d,.assign x,ty,p,af,g⟩ v:=
 λa w hf _=>by simp only[execOp,IZ,Oper.quietUpon];exact⟨trivial,hf.ev e⟩
def Qq{z:Operand}(e:ev E x=some (.bool true):=by exact rfl)(e1:ev E y=some v:=by exact rfl):
  Yld c E R L ⟨d,.pick x y z,ty,p,af,g⟩ v:=
 λa w hf _=>by simp[execOp,hf.ev e,hf.ev e1,asBool,Oper.quietUpon]
def Qn{z:Operand}{u:Value}(e:ev E x=some (.bool false):=by exact rfl)(e2:ev E z=some u:=by exact rfl):
  Yld c E R L ⟨d,.pick x y z,ty,p,af,g⟩ u:=
 λa w hf _=>by simp[execOp,hf.ev e,hf.ev e2,asBool,Oper.quietUpon]
def Qe{a:Addr}(e:ev E x=some (.pointer (some a)):=by exact rfl):Yld c E R L ⟨d,.nilCheck x,ty,p,af,g⟩ (.pointer (some a)):=
 λ_ w hf _=>by simp only[execOp,hf.ev e,IZ,Oper.quietUpon];exact⟨trivial,trivial⟩
def Ql{vs:Array Value}{i:Nat}(e:ev E x=some (.tuple vs):=by exact rfl)(h:vs[i]?=some v:=by exact rfl):Yld c E R L ⟨d,.extract x i,ty,p,af,g⟩ v:=
 λ_ w hf _=>by simp[execOp,hf.ev e,Instr.extract,h,Oper.quietUpon]
def AI{t t':TypeId}(e1:ev E x=some (.int k m))(e2:ev E y=some (.int k n)):
  Yld c E R L ⟨d,.binOp .add t x y t',ty,p,af,g⟩ (.int k (k.wrap (m+n))):=
 λ_ w hf _=>by simp[execOp,hf.ev e1,hf.ev e2,eqGuard,binOp,Op.intArith,Oper.quietUpon]
def AH{t t':TypeId}(e1:ev E x=some (.int k m))(e2:ev E y=some (.int k n)):
  Yld c E R L ⟨d,.binOp .sub t x y t',ty,p,af,g⟩ (.int k (k.wrap (m-n))):=
 λ_ w hf _=>by simp[execOp,hf.ev e1,hf.ev e2,eqGuard,binOp,Op.intArith,Oper.quietUpon]
def nq{t t':TypeId}(e1:ev E x=some (.int k m))(e2:ev E y=some (.int k n)):
  Yld c E R L ⟨d,.binOp .mul t x y t',ty,p,af,g⟩ (.int k (k.wrap (m*n))):=
 λ_ w hf _=>by simp[execOp,hf.ev e1,hf.ev e2,eqGuard,binOp,Op.intArith,Oper.quietUpon]
def Yld.to{u:Value}(y:Yld c E R L o v)(h:v=u):Yld c E R L o u:=h▸y
def aZ(h:k.min<=n/\n<=k.max):k.wrap n=n:=by
 cases k<;>simp[IntKind.min,IntKind.max,IntKind.signed,IntKind.bits]at h<;>simp[IntKind.wrap,IntKind.signed,IntKind.bits]<;>omega
def qX(h: -9223372036854775808<=n/\n<=9223372036854775807):IntKind.i64.wrap n=n:=aZ (by simpa[IntKind.min,IntKind.max,IntKind.signed,IntKind.bits]using h)
def yF(h:0<=n/\n<18446744073709551616):IntKind.u64.wrap n=n:=aZ (by simp[IntKind.min,IntKind.max,IntKind.signed,IntKind.bits];omega)
def Qz{t t':TypeId}(e1:ev E x=some (.int .i64 m):=by exact rfl)(e2:ev E y=some (.int .i64 n):=by exact rfl)(h: -9223372036854775808<=m+n/\m+n<=9223372036854775807:=by first|omega|(dsimp only;omega)|(simp;done)|(simp;omega)):
  Yld c E R L ⟨d,.binOp .add t x y t',ty,p,af,g⟩ (.int .i64 (m+n)):=(AI e1 e2).to (by rw[qX h])
def Zs{t t':TypeId}(e1:ev E x=some (.int .i64 m):=by exact rfl)(e2:ev E y=some (.int .i64 n):=by exact rfl)(h: -9223372036854775808<=m-n/\m-n<=9223372036854775807:=by first|omega|(dsimp only;omega)|(simp;done)|(simp;omega)):
  Yld c E R L ⟨d,.binOp .sub t x y t',ty,p,af,g⟩ (.int .i64 (m-n)):=(AH e1 e2).to (by rw[qX h])
def Yg{t t':TypeId}(e1:ev E x=some (.int .u64 m):=by exact rfl)(e2:ev E y=some (.int .u64 n):=by exact rfl)(h:0<=m+n/\m+n<18446744073709551616:=by first|omega|(dsimp only;omega)|(simp;done)|(simp;omega)):
  Yld c E R L ⟨d,.binOp .add t x y t',ty,p,af,g⟩ (.int .u64 (m+n)):=(AI e1 e2).to (by rw[yF h])
def yg{t t':TypeId}(e1:ev E x=some (.int .u64 m):=by exact rfl)(e2:ev E y=some (.int .u64 n):=by exact rfl)(h:0<=m-n/\m-n<18446744073709551616:=by first|omega|(dsimp only;omega)|(simp;done)|(simp;omega)):
  Yld c E R L ⟨d,.binOp .sub t x y t',ty,p,af,g⟩ (.int .u64 (m-n)):=(AH e1 e2).to (by rw[yF h])
def dA{t t':TypeId}(e1:ev E x=some (.int .i64 m))(e2:ev E y=some (.int .i64 n))(h: -9223372036854775808<=m*n/\m*n<=9223372036854775807):
  Yld c E R L ⟨d,.binOp .mul t x y t',ty,p,af,g⟩ (.int .i64 (m*n)):=(nq e1 e2).to (by rw[qX h])
def Df{t t':TypeId}(e1:ev E x=some (.int .u64 m))(e2:ev E y=some (.int .u64 n))(h:0<=m*n/\m*n<18446744073709551616):
  Yld c E R L ⟨d,.binOp .mul t x y t',ty,p,af,g⟩ (.int .u64 (m*n)):=(nq e1 e2).to (by rw[yF h])
def QR{t t':TypeId}(e1:ev E x=some (.int k m):=by exact rfl)(e2:ev E y=some (.int k n):=by exact rfl):
  Yld c E R L ⟨d,.binOp .lss t x y t',ty,p,af,g⟩ (.bool (decide (m<n))):=
 λ_ w hf _=>by simp[execOp,hf.ev e1,hf.ev e2,eqGuard,binOp,Op.intCmp,Oper.quietUpon]
def aL{t t':TypeId}(e1:ev E x=some (.int k m):=by exact rfl)(e2:ev E y=some (.int k n):=by exact rfl):
  Yld c E R L ⟨d,.binOp .leq t x y t',ty,p,af,g⟩ (.bool (decide (m<=n))):=
 λ_ w hf _=>by simp[execOp,hf.ev e1,hf.ev e2,eqGuard,binOp,Op.intCmp,Oper.quietUpon]
def XG{t t':TypeId}(e1:ev E x=some (.int k m):=by exact rfl)(e2:ev E y=some (.int k n):=by exact rfl):
  Yld c E R L ⟨d,.binOp .gtr t x y t',ty,p,af,g⟩ (.bool (decide (n<m))):=
 λ_ w hf _=>by simp[execOp,hf.ev e1,hf.ev e2,eqGuard,binOp,Op.intCmp,Oper.quietUpon]
def ZP{t t':TypeId}(e1:ev E x=some (.int k m):=by exact rfl)(e2:ev E y=some (.int k n):=by exact rfl):
  Yld c E R L ⟨d,.binOp .geq t x y t',ty,p,af,g⟩ (.bool (decide (n<=m))):=
 λ_ w hf _=>by simp[execOp,hf.ev e1,hf.ev e2,eqGuard,binOp,Op.intCmp,Oper.quietUpon]
def QL{t t':TypeId}(e1:ev E x=some (.int k m):=by exact rfl)(e2:ev E y=some (.int k n):=by exact rfl):
  Yld c E R L ⟨d,.binOp .eql t x y t',ty,p,af,g⟩ (.bool (decide (m=n))):=
 λ_ w hf _=>by simp[execOp,hf.ev e1,hf.ev e2,eqGuard,binOp,Op.intCmp,Oper.quietUpon];rfl
def Yp{t t':TypeId}(e1:ev E x=some (.int k m):=by exact rfl)(e2:ev E y=some (.int k n):=by exact rfl):
  Yld c E R L ⟨d,.binOp .neq t x y t',ty,p,af,g⟩ (.bool (!decide (m=n))):=
 λ_ w hf _=>by simp[execOp,hf.ev e1,hf.ev e2,eqGuard,binOp,Op.intCmp,Oper.quietUpon];rfl
def Xa{t:TypeId}{b:Bool}(e:ev E x=some (.bool b):=by exact rfl):Yld c E R L ⟨d,.unOp .not t x,ty,p,af,g⟩ (.bool !b):=
 λ_ w hf _=>by simp[execOp,hf.ev e,Op.unary,Oper.quietUpon]
@[reducible] def Qs (l : List UInt8) : ByteArray := ⟨l.toArray⟩
def tn{α:Type}[DecidableEq α](m n:List α):(m==n)=decide (m=n):=by by_cases h:m=n<;>simp[h]
def ZA(l:List UInt8):(Qs l).size=l.length:=by simp[ByteArray.size]
def DE(s:ByteArray):s=Qs s.data.toList:=by cases s;simp
def bH{t t':TypeId}{m n:List UInt8}(e1:ev E x=some (.string (Qs m)):=by exact rfl)(e2:ev E y=some (.string (Qs n)):=by exact rfl):
  Yld c E R L ⟨d,.binOp .eql t x y t',ty,p,af,g⟩ (.bool (decide (m=n))):=
 λ_ w hf _=>by simp[execOp,hf.ev e1,hf.ev e2,eqGuard,binOp,Op.stringOp,Oper.quietUpon];exact tn m n
def fA{t t':TypeId}{m n:List UInt8}(e1:ev E x=some (.string (Qs m)))(e2:ev E y=some (.string (Qs n))):
  Yld c E R L ⟨d,.binOp .neq t x y t',ty,p,af,g⟩ (.bool (!decide (m=n))):=
 λ_ w hf _=>by simp[execOp,hf.ev e1,hf.ev e2,eqGuard,binOp,Op.stringOp,Oper.quietUpon];exact tn m n
def zB{t t':TypeId}{m n:List UInt8}(e1:ev E x=some (.string (Qs m)):=by exact rfl)(e2:ev E y=some (.string (Qs n)):=by exact rfl)(h:m.length+n.length<=9223372036854775807:=by first|omega|(dsimp only;omega)|(simp;done)|(simp;omega)):
  Yld c E R L ⟨d,.binOp .add t x y t',ty,p,af,g⟩ (.string (Qs (m++n))):=
 λ_ w hf _=>by
  have hk:¬IntKind.i64.max<(((Qs m).size+(Qs n).size:Nat):Int):=by simp only[ZA];simp[IntKind.max,IntKind.signed,IntKind.bits];omega
  have e:Qs m++Qs n=Qs (m++n):=by apply ByteArray.ext;simp
  have r:(Op.stringOp .add (Qs m) (Qs n)).run c.P w=.ok (.string (Qs m++Qs n)) w:=by simp only[Op.stringOp,ac hk,IZ]
  simp[execOp,hf.ev e1,hf.ev e2,eqGuard,binOp,r,Oper.quietUpon,e]
def YP{t:TypeId}{m:List UInt8}(hT:c.P.underlying t=some .string)(e1:ev E x=some (.string (Qs m)):=by exact rfl):
  Yld c E R L ⟨d,.call {callee:=.builtin .len,args:= #[x],argTypes:= #[t]},ty,p,af,g⟩ (.int .i64 m.length):=
 λ_ w hf _=>by
  have r:=run_len_string (P:=c.P) w t ty (Qs m) hT
  rw[ZA]at r
  simp[execOp,resolve,invoke,builtin,hf.ev e1,r,Oper.quietUpon,goInt]
def du(m:List UInt8)(a b:Nat):(Qs m).extract a b=Qs ((m.drop a).take (b-a)):=by
 rw[Lib.extract_eq]
def md{lo hi:Operand}{t:TypeId}{m:List UInt8}{j:Int}(hT:c.P.underlying t=some .string)(e1:ev E x=some (.string (Qs m)))
  (e2:ev E lo=some (.int .i64 i)) (e3:ev E hi=some (.int .i64 j)) (h:0<=i/\i<=j/\j<=m.length):
  Yld c E R L ⟨d,.slice t x (some lo) (some hi) none,ty,p,af,g⟩ (.string (Qs ((m.drop i.toNat).take (j.toNat-i.toNat)))):=
 λ_ w hf _=>by
  let⟨h1,h2,h3⟩:=h
  have r:=run_slice_string_if (P:=c.P) w t (Qs m) .i64 .i64 i j hT
  rw[an ⟨by omega,by rw[ZA];exact h3⟩,an ⟨h1,h2⟩,du]at r
  simp[execOp,Instr.sliceAt,run_underlying hT,hf.ev e1,hf.ev e2,hf.ev e3,r,Oper.quietUpon]
def fC{hi:Operand}{t:TypeId}{m:List UInt8}{j:Int}(hT:c.P.underlying t=some .string)(e1:ev E x=some (.string (Qs m)))
  (e3:ev E hi=some (.int .i64 j)) (h:0<=j/\j<=m.length):
  Yld c E R L ⟨d,.slice t x none (some hi) none,ty,p,af,g⟩ (.string (Qs (m.take j.toNat))):=
 λ_ w hf _=>by
  have r:=run_slice_string_h (P:=c.P) w t (Qs m) hT .i64 j h.1 (by rw[ZA];exact h.2)
  rw[du]at r
  simp[execOp,Instr.sliceAt,run_underlying hT,hf.ev e1,hf.ev e3,r,Oper.quietUpon]
def fB{lo:Operand}{t:TypeId}{m:List UInt8}(hT:c.P.underlying t=some .string)(e1:ev E x=some (.string (Qs m)))
  (e2:ev E lo=some (.int .i64 i)) (h:0<=i/\i<=m.length):
  Yld c E R L ⟨d,.slice t x (some lo) none none,ty,p,af,g⟩ (.string (Qs (m.drop i.toNat))):=
 λ_ w hf _=>by
  have r:=run_slice_string_l (P:=c.P) w t (Qs m) hT .i64 i h.1 (by rw[ZA];exact h.2)
  rw[du,ZA,Gx (by simp)]at r
  simp[execOp,Instr.sliceAt,run_underlying hT,hf.ev e1,hf.ev e2,r,Oper.quietUpon]
def XY(m:List UInt8)(i:Int):Int:=((m.getD i.toNat 0).toNat:Int)
def ji(m:List UInt8)(i:Int):0<=XY m i/\XY m i<256:=by unfold XY;have:=(m.getD i.toNat 0).toNat_lt;omega
def Zg{t:TypeId}{m:List UInt8}(hT:c.P.underlying t=some .string)(e1:ev E x=some (.string (Qs m)):=by exact rfl)
  (e2:ev E y=some (.int k i):=by exact rfl) (h:0<=i/\i<m.length:=by first|omega|(dsimp only;omega)|(simp;done)|(simp;omega)):
  Yld c E R L ⟨d,.index t x y,ty,p,af,g⟩ (.int .u8 (XY m i)):=
 λ_ w hf _=>by
  have r:=run_index_string (P:=c.P) w t (Qs m) k i hT
  rw[dif_pos ⟨h.1,by rw[ZA];exact h.2⟩]at r
  have e:(Qs m)[i.toNat]'(by rw[ZA];omega)=m.getD i.toNat 0:=by
   rw[Gt,b7 (by omega)];rfl
  rw[e]at r
  simp[execOp,hf.ev e1,hf.ev e2,r,Oper.quietUpon,XY]
def jl{s t:TypeId}{D:TypeDesc}(hS:c.P.underlying s=some D)(hT:c.P.underlying t=some (.int k'))(e:ev E x=some (.int k n):=by exact rfl):
  Yld c E R L ⟨d,.convert s t x,ty,p,af,g⟩ (.int k' (k'.wrap n)):=
 λ_ w hf _=>by
  have r:(convert s t (.int k n)).run c.P w=.ok (.int k' (k'.wrap n)) w:=by
   cases D<;>simp[convert,run_underlying hS,run_underlying hT,Conv.intToInt]
  simp[execOp,hf.ev e,r,Oper.quietUpon]
def XE{s t:TypeId}{D:TypeDesc}(hS:c.P.underlying s=some D)(hT:c.P.underlying t=some (.int k'))(e:ev E x=some (.int k n))(h:k'.min<=n/\n<=k'.max):
  Yld c E R L ⟨d,.convert s t x,ty,p,af,g⟩ (.int k' n):=(jl hS hT e).to (by rw[aZ h])
end
def ZO:List Value->Nat->Option Value
 |[],_=>none
 |x::_,0=>some x
 |_::l,n+1=>ZO l n
def yh:List Value->Nat->Value->List Value
 |[],_,_=>[]
 |_::l,0,v=>v::l
 |x::l,n+1,v=>x::yh l n v
def qr(l:List Value):∀n,ZO l n=l[n]?:=by
 induction l with
 |nil=>intro n;simp[ZO]
 |cons x l ih=>intro n;cases n with|zero=>simp[ZO]|succ n=>simp[ZO,ih]
def je(l:List Value)(v:Value):∀n,yh l n v=l.set n v:=by
 induction l with
 |nil=>intro n;simp[yh]
 |cons x l ih=>intro n;cases n with|zero=>simp[yh]|succ n=>simp[yh,ih]
def QA(b:Nat)(l:List Value)(e:TypeId):Qj:=si b ⟨l⟩ e
def Sat.blk_heap{e:TypeId}(s:Sat σ R (QA b l e::L) w):w.heap[b]?=some (.cells ⟨l⟩ e (0,0)):=s.pts_heap
def Sat.blk_cell{e:TypeId}(s:Sat σ R (QA b l e::L) w)(off:Nat):w.cell? ⟨b,off,none⟩=ZO l off:=by
 simp[World.cell?,s.blk_heap,qr]
def Sat.blk_frozen{e:TypeId}(s:Sat σ R (QA b l e::L) w)(off:Nat):w.frozen? ⟨b,off,none⟩=false:=by
 simp[World.frozen?,s.blk_heap]
def Sat.blk_set{e:TypeId}(v:Value)(s:Sat σ R (QA b l e::L) w):
  Sat σ R (QA b (yh l off v) e::L) (w.setCell ⟨b,off,none⟩ v):=by
 have:=s.set (off:=off) v;rw[je];simpa[QA]using this
def C7{h:Hp}{a:Addr}(k:∀b o,h b=some o->w.heap[b]?=some o)(e:Hp.cell h a=some v):w.cell? a=some v:=by
 unfold Hp.cell at e;unfold World.cell?;cases hb:h a.block with
 |none=>rw[hb]at e;cases e
 |some o=>rw[hb]at e;rw[k _ _ hb];exact e
def Sat.ro_cell{a:Addr}(s:Sat σ R L w)(e:Hp.cell R a=some v):w.cell? a=some v:=C7 s.ro e
def YH(b o k:Nat):(⟨b,o,none⟩:Addr).add k=⟨b,o+k,none⟩:=by unfold Addr.add;split<;>simp_all
def ZZ(P:Program)(t:TypeId):Prop:=(∀w,(isAgg t).run P w=.ok false w)/\∀w,(sizeOf t).run P w=.ok 1 w
def yz(P:Program)(t:TypeId)(n:Nat):Prop:=(∀w,(isAgg t).run P w=.ok true w)/\∀w,(sizeOf t).run P w=.ok n w
def gZ(fs:Array Field)(f:Nat):Option (TypeId×Nat):=(fs[f]?).map λx=>(x.type,x.offset)
section
variable{c:Cx}{E:Env}{R:Hp}{L:List Qj}{d:Option Tmp}{ty:TypeId}{p:String}{af:Array Edge}{g:Option (Nat×Bool)}
def cL{t:TypeId}(hT:ZZ c.P t)(e:ev E x=some (.pointer (some ⟨b,off,none⟩)))
  (hc:∀w,Sat c.σ R L w->w.cell? ⟨b,off,none⟩=some v):Yld c E R L ⟨d,.load t x,ty,p,af,g⟩ v:=
 λa w hf hs=>by
  have h:=hc w hs
  have r:(Instr.loadAt t (.pointer (some ⟨b,off,none⟩))).run c.P w=.ok v w:=by
   simp[Instr.loadAt,Instr.sureAddr,loadVar,hT.1,load,Sem.run,h]
  simp[execOp,hf.ev e,r,Oper.quietUpon]
def Dg{t:TypeId}{et:TypeId}(hT:ZZ c.P t)(e:ev E x=some (.pointer (some ⟨b,off,none⟩)))
  (f:Find (QA b l et) L M) (h:ZO l off=some v):Yld c E R L ⟨d,.load t x,ty,p,af,g⟩ v:=
 cL hT e λw hs=>by rw[(hs.find f).blk_cell];exact h
def XQ{t:TypeId}(hT:ZZ c.P t)(e:ev E x=some (.pointer (some ⟨b,off,none⟩)))
  (h:Hp.cell R ⟨b,off,none⟩=some v):Yld c E R L ⟨d,.load t x,ty,p,af,g⟩ v:=
 cL hT e λ_ hs=>hs.ro_cell h
def fV:∀(vs:List Value) (off i:Nat) (acc:Array Value),(∀j v,vs[j]?=some v->w.cell? ⟨b,off+i+j,none⟩=some v)->
  (loadCellsFrom ⟨b,off,none⟩ i vs.length acc).run P w=.ok (acc++vs.toArray) w:=by
 intro vs;induction vs with
 |nil=>intro off i acc _;simp[loadCellsFrom]
 |cons v vs ih=>
  intro off i acc h;have h0:w.cell? ⟨b,off+i,none⟩=some v:=by simpa using h 0 v rfl
  have:=ih off (i+1) (acc.push v) (λj u hu=>by have:=h (j+1) u (by simpa using hu);rwa [show off+(i+1)+j=off+i+(j+1)by omega]);simp only[GD,loadCellsFrom,YH,Iq];simp only[load,Sem.run,h0,Iv,this];simp
def eh{t:TypeId}{n:Nat}(hT:yz c.P t n)(hn:vs.length=n)(e:ev E x=some (.pointer (some ⟨b,off,none⟩)))
  (hc:∀w,Sat c.σ R L w->∀j v,vs[j]?=some v->w.cell? ⟨b,off+j,none⟩=some v):Yld c E R L ⟨d,.load t x,ty,p,af,g⟩ (.agg vs.toArray):=
 λa w hf hs=>by
  have h:=fV (P:=c.P) (w:=w) (b:=b) vs off 0 #[] (by simpa using hc w hs)
  have r:(Instr.loadAt t (.pointer (some ⟨b,off,none⟩))).run c.P w=.ok (.agg vs.toArray) w:=by
   simp[Instr.loadAt,Instr.sureAddr,loadVar,hT.1,hT.2,loadCells,<-hn,h]
  simp[execOp,hf.ev e,r,Oper.quietUpon]
def ig{s ft:TypeId}{f k:Nat}{fs:Array Field}(hS:c.P.underlying s=some (.struct fs))(hF:gZ fs f=some (ft,k)){n:Nat}(hn:n≠0)(hZ:∀w,(sizeOf ft).run c.P w=.ok n w)
  (e:ev E x=some (.pointer (some ⟨b,off,none⟩))):Yld c E R L ⟨d,.fieldAddr s x f,ty,p,af,g⟩ (.pointer (some ⟨b,off+k,none⟩)):=
 λa w hf _=>by
  unfold gZ at hF
  cases hx:fs[f]? with
  |none=>rw[hx]at hF;cases hF
  |some fd=>
   rw[hx]at hF
   simp[JP,Hi,KP]at hF
   have hz:(sizeOf fd.type).run c.P w=.ok n w:=by rw[hF.1];exact hZ w
   have r:(Instr.fieldAt s (.pointer (some ⟨b,off,none⟩)) f).run c.P w=.ok (.pointer (some ⟨b,off+k,none⟩)) w:=by
    simp[Instr.fieldAt,run_underlying hS,hx,Instr.sureAddr,fieldPlace,hz,hn,YH,hF.2]
   simp[execOp,hf.ev e,r,Oper.quietUpon]
def kL(pl:List (Nat×Nat)):List Value->List (Nat×List Value)->Option (List Value)
 |cs,[]=>some cs
 |cs,(i,vs)::rest=>
  match pl[i]? with
  |none=>none
  |some (off,size)=>cond (vs.length==size&&Nat.ble (off+vs.length) cs.length) (kL pl (cs.take off++vs++cs.drop (off+vs.length)) rest) none
def kQ:List (Nat×Value)->List (Nat×List Value)
 |[]=>[]
 |(i,v)::l=>(i,v.cells.toList)::kQ l
def wY(l:List (Nat×Value)):kQ l=l.map λx=>(x.1,x.2.cells.toList):=by
 induction l with
 |nil=>rfl
 |cons x l ih=>obtain⟨i,v⟩:=x;simp[kQ,ih]
def evp(E:Env):List (Nat×Operand)->Option (List (Nat×Value))
 |[]=>some []
 |(i,x)::l=>match ev E x,evp E l with
  |some v,some vs=>some ((i,v)::vs)
  |_,_=>none
def Fr.evp{n:Nat}{E:Env}{a:Act}(h:Fr n E a):∀{l:List (Nat×Operand)} {vs:List (Nat×Value)},V.evp E l=some vs->(l.map λx=>(x.1,a.eval x.2))=vs
 |[],vs,e=>by simp[V.evp,Hi]at e;subst e;rfl
 |(i,x)::l,vs,e=>by
  simp[V.evp]at e;split at e;.rename_i v us h1 h2;simp[Hi]at e;subst e;simp[h.ev h1,h.evp h2]
  cases e
def mT(vs:List Value):∀(k off:Nat) (cs:List Value),off+k+vs.length<=cs.length->
  (vs.zipIdx k).foldl (λ(cs:Array Value) (x:Value×Nat)=>cs.setIfInBounds (off+x.2) x.1) cs.toArray=(cs.take (off+k)++vs++cs.drop (off+k+vs.length)).toArray:=by
 induction vs with
 |nil=>intro k off cs _;simp
 |cons v vs ih=>
  intro k off cs h;simp only[GD]at h;simp only[List.zipIdx_cons,It,List.setIfInBounds_toArray];have:=ih (k+1) off (cs.set (off+k) v) (by simp;omega);simp only[HQ]at this|-;rw[this];congr 1;rw[List.take_set,List.drop_set_of_lt (by omega),GD];have e1:(cs.take (off+(k+1))).set (off+k) v=cs.take (off+k)++[v]:=by
   have:off+(k+1)=off+k+1:=by omega
   rw[this,List.take_succ_eq_append_getElem (by omega),Mr _ _ (by simp;omega)];simp[Hj (by omega:off+k<=cs.length)]
  rw[e1];simp[show off+(k+(vs.length+1))=off+(k+(1+vs.length))by omega]
def CV(pl:List (Nat×Nat)):∀(vs:List (Nat×Value)) (cs out:List Value),kL pl cs (vs.map λx=>(x.1,x.2.cells.toList))=some out->
  Instr.fill (λi=>pl[i]?) cs.toArray vs=some out.toArray:=by
 intro vs;induction vs with
 |nil=>intro cs out h;simp only[List.map_nil,kL,Hi]at h;subst h;rfl
 |cons x vs ih=>
  intro cs out h;let⟨i,v⟩:=x;simp only[Hf,kL]at h;simp only[Instr.fill];cases hp:pl[i]? with
  |none=>rw[hp]at h;cases h
  |some q=>
   let⟨off,size⟩:=q;rw[hp]at h;simp only at h|-;cases hb:(v.cells.toList.length==size&&Nat.ble (off+v.cells.toList.length) cs.length)with
   |false=>rw[hb]at h;cases h
   |true=>
    rw[hb]at h;simp only[G6,MY,KN]at hb;let⟨h1,h2⟩:=hb;have h2':off+v.cells.size<=cs.length:=by simpa using Gz h2
    rw[ac (by simp[h1];omega)];have:=mT v.cells.toList 0 off cs (by simpa using h2');simp only[I7]at this;rw[<-ih _ _ h];congr 1;rw[<-this];have:v.cells.zipIdx=(v.cells.toList.zipIdx 0).toArray:=by
     apply J6;simp
    rw[this];simp
def Xh{t:TypeId}{parts:List (Nat×Operand)}{vs:List (Nat×Value)}{z:Value}{cells:List Value}(pl:List (Nat×Nat))(hS:c.P.underlying t=some (.struct ⟨fs⟩))(hz:∀w,(zeroValue t).run c.P w=.ok z w)
  (hpl:∀w,(fs.mapM λf=>(do pure (f.offset,<-sizeOf f.type):Sem (Nat×Nat))).run c.P w=.ok pl w)
  (hv:evp E parts=some vs:=by exact rfl)
  (hf:kL pl z.cells.toList (kQ vs)=some cells:=by exact rfl):Yld c E R L ⟨d,.build t ⟨parts⟩,ty,p,af,g⟩ (.agg ⟨cells⟩):=
 λa w ha _=>by
  have hv':=ha.evp hv
  rw[wY]at hf
  have hm:((Array.mk fs).mapM λf=>(do pure (f.offset,<-sizeOf f.type):Sem (Nat×Nat))).run c.P w=.ok pl.toArray w:=by
   have e:(Array.mk fs)=fs.toArray:=rfl
   rw[e,List.mapM_toArray]
   simp only[map_eq_pure_bind,Sem.run_bind]at hpl|-
   rw[hpl w]
   simp
  have hfl:=CV pl vs z.cells.toList cells hf
  have r:(Instr.build t ⟨vs⟩).run c.P w=.ok (.agg ⟨cells⟩) w:=by
   unfold Instr.build
   simp only[Sem.run_bind,hz,Result.andThen_ok,run_underlying hS,hm]
   have e2:(λi:Nat=>pl.toArray[i]?)=λi:Nat=>pl[i]?:=by funext i;simp
   rw[e2]
   have e3:z.cells=z.cells.toList.toArray:=by simp
   rw[e3,hfl]
   simp
  have e:(Array.mk parts).map (λx=>(x.1,a.eval x.2))=⟨vs⟩:=by
   rw[<-hv'];simp
  simp only[execOp]
  rw[show(Array.map (λx=>match x with|(i,x)=>(i,a.eval x)) (Array.mk parts))=(Array.mk parts).map (λx=>(x.1,a.eval x.2))from rfl,e]
  simp[r,Oper.quietUpon]
end
def Tri(P:Program)(f:FuncId)(args:List Value)(R:Hp)(L:List Qj)(post:Value->Hp->List Qj->Prop)(pan:List PanicEntry->Hp->List Qj->Prop:=λ_ _ _=>False):Prop:=
 ∀σ F w,Sat σ R (L++F) w->Calls P f ⟨args⟩ w λe w'=>∃R' L',R.le R'/\Sat σ R' (L'++F) w'/\
  match e with
  | .returned v=>post v R' L'
  | .panicked ch=>pan ch R' L'
  | .outgrown=>False
def QTri(P:Program)(f:FuncId)(args:List Value)(R:Hp)(L:List Qj)(v:Value):Prop:=
 ∀σ F w,Sat σ R (L++F) w->Calls P f ⟨args⟩ w λe w'=>e=.returned v/\Sat σ R (L++F) w'
def Tri.q(h:Tri P f args R L (λu R' L'=>u=v/\R'=R/\L'=L)):QTri P f args R L v:=
 λσ F w hs=>(h σ F w hs).mono λe w' ⟨R',L',_,hw,hp⟩=>by
  cases e with
  |returned u=>obtain⟨rfl,rfl,rfl⟩:=hp;exact⟨rfl,hw⟩
  |panicked ch=>exact hp.elim
  |outgrown=>exact hp.elim
def Tri.mono{P:Program}{f:FuncId}{args:List Value}{R:Hp}{L:List Qj}{p p':Value->Hp->List Qj->Prop}{q q':List PanicEntry->Hp->List Qj->Prop}(h:Tri P f args R L p q)
  (k:∀v R' L',R.le R'->p v R' L'->p' v R' L') (k':∀v R' L',R.le R'->q v R' L'->q' v R' L'):Tri P f args R L p' q':=
 λσ F w hs=>(h σ F w hs).mono λe w' ⟨R',L',hR,hw,hp⟩=>⟨R',L',hR,hw,by cases e with|returned v=>exact k _ _ _ hR hp|panicked ch=>exact k' _ _ _ hR hp|outgrown=>exact hp⟩
inductive Split:List Qj->List Qj->List Qj->Prop
 |nil (L:List Qj):Split L [] L
 |cons {A:Qj} {L L1 pre F:List Qj}:Find A L L1->Split L1 pre F->Split L (A::pre) F
def zN(L:List Qj):Split L [] L:=.nil L
def zS{L1:List Qj}(h:Find A L L1)(k:Split L1 pre F):Split L (A::pre) F:=.cons h k
def Split.stars{L pre F:List Qj}(s:Split L pre F):∀{h:Hp},V.stars L h->V.stars (pre++F) h:=by
 induction s with
 |nil L=>exact λs=>s
 |cons f _ ih=>intro h s;let⟨h1,h2,a,b,c,d,e⟩:=f.stars s;exact⟨h1,h2,a,b,c,d,ih e⟩
def Split.back{L pre F:List Qj}(s:Split L pre F):∀{h:Hp},V.stars (pre++F) h->V.stars L h:=by
 induction s with
 |nil L=>exact λs=>s
 |cons f _ ih=>rintro h ⟨h1,h2,a,b,c,d,e⟩;exact f.back ⟨h1,h2,a,b,c,d,ih e⟩
def Split.sat(s:Split L pre F)(h:Sat σ R L w):Sat σ R (pre++F) w:=
 ⟨h.os,h.tape,h.output,h.ro,let⟨g,a,b,c⟩:=h.own;⟨g,a,b,s.stars c⟩⟩
def Split.satBack(s:Split L pre F)(h:Sat σ R (pre++F) w):Sat σ R L w:=
 ⟨h.os,h.tape,h.output,h.ro,let⟨g,a,b,c⟩:=h.own;⟨g,a,b,s.back c⟩⟩
def evs(E:Env):List Operand->Option (List Value)
 |[]=>some []
 |x::xs=>match ev E x,evs E xs with
  |some v,some vs=>some (v::vs)
  |_,_=>none
def Fr.evs{n:Nat}{E:Env}{a:Act}(h:Fr n E a):∀{xs:List Operand} {vs:List Value},V.evs E xs=some vs->xs.map a.eval=vs
 |[],vs,e=>by simp[V.evs,Hi]at e;subst e;rfl
 |x::xs,vs,e=>by
  simp[V.evs]at e;split at e;.rename_i v us h1 h2;simp[Hi]at e;subst e;simp[h.ev h1,h.evs h2]
  cases e
section
variable{c:Cx}{ops:Array Oper}{Q:Exit->Act->World->Prop}{E:Env}{R:Hp}{L:List Qj}{rest:List Oper}{ty:TypeId}{p:String}{af:Array Edge}{g:Option (Nat×Bool)}
def ol{a:Act}{d:Option Tmp}(hc:∀args w,(callFunc f args).run c.P w=.ok (.enter f args) w)
  (hv:xs.map a.eval=vs):(execOp a.eval ⟨d,.call {callee:=.value (.func f),args:=⟨xs⟩,argTypes:=ts},ty,p,af,g⟩).run c.P w=.ok (.enter f ⟨vs⟩) w:=by
 have e:(Array.mk xs).map a.eval=⟨vs⟩:=by rw[<-hv];simp
 simp[execOp,resolve,Act.eval,Deferred.ofValue,invoke,e,hc]
def Di{d:Option Tmp}(hc:∀args w,(callFunc f args).run c.P w=.ok (.enter f args) w)
  (hv:evs E xs=some vs) (ht:QTri c.P f vs R pre v) (hs:Split L pre F):Yld c E R L ⟨d,.call {callee:=.value (.func f),args:=⟨xs⟩,argTypes:=ts},ty,p,af,g⟩ v:=
 λa w hf hw=>by
  rw[ol hc (hf.evs hv)]
  exact⟨rfl,(ht _ _ _ (hs.sat hw)).mono λe w' ⟨h1,h2⟩=>⟨h1,hs.satBack h2⟩⟩
def XW{post:Value->Hp->List Qj->Prop}{pan:List PanicEntry->Hp->List Qj->Prop}
  (hw:Wn c ops E ⟨some d,.call {callee:=.value (.func f),args:=⟨xs⟩,argTypes:=ts},ty,p,af,g⟩ true) (hn:Nat.blt d c.n=true) (hc:∀args w,(callFunc f args).run c.P w=.ok (.enter f args) w)
  (hv:evs E xs=some vs) (ht:Tri c.P f vs R pre post pan) (hs:Split L pre F)
  (hp:∀ch R' L',R.le R'->pan ch R' L'->EJ c (Q (.panic ch)) E R' (L'++F))
  (h:∀v R' L',R.le R'->post v R' L'->RJ c ops Q rest ((d,v)::E) R' (L'++F)):
  RJ c ops Q (⟨some d,.call {callee:=.value (.func f),args:=⟨xs⟩,argTypes:=ts},ty,p,af,g⟩::rest) E R L:=by
 intro a w hf hsat;unfold wpList;rw[an (hw a hf)];refine .inl ?_;unfold Oper.wp;rw[ol hc (hf.evs hv)];refine(ht _ _ _ (hs.sat hsat)).mono λe w' ⟨R',L',hR,hw',hpost⟩=>?_;cases e with
 |returned v=>exact h v R' L' hR hpost _ _ (hf.put hn v) hw'
 |panicked ch=>exact hp ch R' L' hR hpost _ _ hf hw'
 |outgrown=>exact hpost.elim
def vL{L':List Qj}(hw:Wn c ops E o true)(hd:o.dst=some d)(hn:Nat.blt d c.n=true)
  (hr:∀a w,Fr c.n E a->Sat c.σ R L w->∃w',(execOp a.eval o).run c.P w=.ok (.value v) w'/\Sat c.σ R L' w') (h:RJ c ops Q rest ((d,v)::E) R L'):RJ c ops Q (o::rest) E R L:=by
 intro a w hf hs;unfold wpList;rw[an (hw a hf)];refine .inl ?_;let⟨w',h1,h2⟩:=hr a w hf hs;unfold Oper.wp;rw[h1];simp[Oper.upon,hd];exact h _ _ (hf.put hn v) h2
def dM{L':List Qj}(hw:Wn c ops E o true)(hd:o.dst=none)
  (hr:∀a w,Fr c.n E a->Sat c.σ R L w->∃w',(execOp a.eval o).run c.P w=.ok .skip w'/\Sat c.σ R L' w') (h:RJ c ops Q rest E R L'):RJ c ops Q (o::rest) E R L:=by
 intro a w hf hs;unfold wpList;rw[an (hw a hf)];refine .inl ?_;let⟨w',h1,h2⟩:=hr a w hf hs;unfold Oper.wp;rw[h1];simp[Oper.upon,hd];exact h _ _ hf h2
def fX{v:Nat->Value}{L':Nat->List Qj}(hw:Wn c ops E o true)(hd:o.dst=some d)(hn:Nat.blt d c.n=true)
  (hr:∀a w,Fr c.n E a->Sat c.σ R L w->∃b w',(execOp a.eval o).run c.P w=.ok (.value (v b)) w'/\Sat c.σ R (L' b) w') (h:∀b,RJ c ops Q rest ((d,v b)::E) R (L' b)):RJ c ops Q (o::rest) E R L:=by
 intro a w hf hs;unfold wpList;rw[an (hw a hf)];refine .inl ?_;let⟨b,w',h1,h2⟩:=hr a w hf hs;unfold Oper.wp;rw[h1];simp[Oper.upon,hd];exact h b _ _ (hf.put hn _) h2
def lm{et:TypeId}:∀(vs:List Value) (i:Nat) (l:List Value) (w:World),Sat σ R (QA b l et::L) w->off+i+vs.length<=l.length->(∀v∈vs,v.oneCell'=true)->
  ∃w',(storeCells ⟨b,off,none⟩ vs i).run P w=.ok () w'/\Sat σ R (QA b (l.take (off+i)++vs++l.drop (off+i+vs.length)) et::L) w':=by
 intro vs i l w hs hl h1;have hr:=run_storeCells_at P b off et vs i ⟨l⟩ w hs.blk_heap hl h1;refine⟨_,hr,?_⟩;exact hs.setRow _
def oy{t et:TypeId}{l':List Value}(hT:ZZ c.P t)
  (hw:Wn c ops E ⟨none,.store t x y,ty,p,af,g⟩ true) (e1:ev E x=some (.pointer (some ⟨b,off,none⟩))) (e2:ev E y=some v) (hv:v.oneCell'=true)
  (f:Find (QA b l et) L M) (hl:Nat.blt off l.length=true) (he:yh l off v=l') (h:RJ c ops Q rest E R (QA b l' et::M)):RJ c ops Q (⟨none,.store t x y,ty,p,af,g⟩::rest) E R L:=by
 refine dM hw rfl (λa w hf hs=>?_) h;have hs':=hs.find f;have hlt:off<l.length:=Hw (HM _) (Gz hl);have hc:v.cells= #[v]:=by cases v<;>first|rfl|simp[Value.oneCell']at hv
 have hcell:=hs'.blk_cell off;have hfz:=hs'.blk_frozen off;have hn:ZO l off=some l[off]:=by rw[qr];simp[hlt]
 rw[hn]at hcell;have hst:(store ⟨b,off,none⟩ v).run c.P w=.ok () (w.setCell ⟨b,off,none⟩ v):=by
  cases v<;>first|(simp[Value.oneCell']at hv;done)|simp[store,Sem.run,hcell,hfz]
 have hset:Sat c.σ R (QA b l' et::M) (w.setCell ⟨b,off,none⟩ v):=he▸hs'.blk_set v;refine⟨_,?_,hset⟩;simp[execOp,hf.ev e1,hf.ev e2,Instr.storeAt,Instr.sureAddr,storeVar,hT.2,hc,storeCells,YH,hst]
def Qr{t et:TypeId}{n:Nat}{l':List Value}(hT:yz c.P t n)(hn:vs.length=n)
  (hw:Wn c ops E ⟨none,.store t x y,ty,p,af,g⟩ true) (e1:ev E x=some (.pointer (some ⟨b,off,none⟩))) (e2:ev E y=some (.agg ⟨vs⟩)) (hv:∀v∈vs,v.oneCell'=true)
  (f:Find (QA b l et) L M) (hl:off+vs.length<=l.length) (he:l.take off++vs++l.drop (off+vs.length)=l') (h:RJ c ops Q rest E R (QA b l' et::M)):RJ c ops Q (⟨none,.store t x y,ty,p,af,g⟩::rest) E R L:=by
 refine dM hw rfl (λa w hf hs=>?_) h;let⟨w',h1,h2⟩:=lm (P:=c.P) (off:=off) vs 0 l w (hs.find f) (by simpa using hl) hv;refine⟨w',?_,he▸h2⟩;simp[execOp,hf.ev e1,hf.ev e2,Instr.storeAt,Instr.sureAddr,storeVar,hT.2,Value.cells,hn,h1]
def Xc{t:TypeId}(hw:Wn c ops E ⟨some d,.box t x,ty,p,af,g⟩ true)(hn:Nat.blt d c.n=true)(e:ev E x=some v)(hv:v.cells=⟨l⟩)
  (h:∀b,RJ c ops Q rest ((d,.pointer (some ⟨b,0,none⟩))::E) R (QA b l t::L)):RJ c ops Q (⟨some d,.box t x,ty,p,af,g⟩::rest) E R L:=by
 refine fX (v:=λb=>.pointer (some ⟨b,0,none⟩)) (L':=λb=>QA b l t::L) hw rfl hn (λa w hf hs=>⟨w.heap.size,w.alloc (.cells ⟨l⟩ t (0,0)),?_,hs.alloc _⟩) h;simp[execOp,hf.ev e,Instr.box,newVar,newRow,hv]
def QC{t:TypeId}{z:Value}(hw:Wn c ops E ⟨some d,.alloc t,ty,p,af,g⟩ true)(hn:Nat.blt d c.n=true)(hz:∀w,(zeroValue t).run c.P w=.ok z w)(hv:z.cells=⟨l⟩)
  (h:∀b,RJ c ops Q rest ((d,.pointer (some ⟨b,0,none⟩))::E) R (QA b l t::L)):RJ c ops Q (⟨some d,.alloc t,ty,p,af,g⟩::rest) E R L:=by
 refine fX (v:=λb=>.pointer (some ⟨b,0,none⟩)) (L':=λb=>QA b l t::L) hw rfl hn (λa w hf hs=>⟨w.heap.size,w.alloc (.cells ⟨l⟩ t (0,0)),?_,hs.alloc _⟩) h;simp[execOp,Instr.alloc,newVar,newRow,hv,hz]
end
def fa:Nat->List Value->Env
 |_,[]=>[]
 |i,v::vs=>(i,v)::fa (i+1) vs
def pc:∀(vs:List Value) (i t:Nat) (v:Value),lk (fa i vs) t=some v->i<=t/\vs[t-i]?=some v
 |[],_,_,_,h=>by cases h
 |u::vs,i,t,v,h=>by
  simp[fa,lk]at h;cases hb:Nat.beq i t with
  |true=>rw[hb]at h;obtain rfl:=Is hb;simp[Ll,Hi]at h;subst h;simp
  |false=>
   rw[hb]at h;let⟨h1,h2⟩:=pc vs (i+1) t v h;refine⟨by omega,?_⟩;rw[show t-i=(t-(i+1))+1 by omega];simpa using h2
def Fr.start{n:Nat}(h:Nat.ble args.length n=true):Fr n (fa 0 args) {tmps:=(⟨args⟩:Array Value)++Array.replicate (n-(⟨args⟩:Array Value).size) undef,defers:=[]}:=by
 have hle:=Gz h;refine⟨by simp;omega,rfl,λt v e=>?_⟩;let⟨_,h2⟩:=pc args 0 t v e;simp[Ml]at h2;have hlt:t<args.length:=by
  rcases HK t args.length with k|k;.exact k
  rw[Ho k]at h2;cases h2
 rw[GL,Array.getElem?_append_left (by simpa using hlt)];simp[h2]
def zy(P:Program)(fn:Func)(σ:World)(R0:Hp)(F:List Qj)(post:Value->Hp->List Qj->Prop)(pan:List PanicEntry->Hp->List Qj->Prop):Exit->Act->World->Prop:=
 bodyPost P fn λe w'=>∃R' L',R0.le R'/\Sat σ R' (L'++F) w'/\
  match e with
  | .returned v=>post v R' L'
  | .panicked ch=>pan ch R' L'
  | .outgrown=>False
def Du{f n:Nat}{fn:Func}{body:Code}{post:Value->Hp->List Qj->Prop}{pan:List PanicEntry->Hp->List Qj->Prop}
  (hf:P.funcs[f]?=some fn) (hb:fn.body=some body) (hn:fn.ntmps=n) (ha:Nat.ble args.length n=true)
  (h:∀σ F (Q:Exit->Act->World->Prop),(∀E R1 L1,EJ ⟨P,n,σ⟩ (zy P fn σ R F post pan .ret) E R1 L1->EJ ⟨P,n,σ⟩ (Q .ret) E R1 L1)->(∀E R1 L1,EJ ⟨P,n,σ⟩ (zy P fn σ R F post pan .normal) E R1 L1->EJ ⟨P,n,σ⟩ (Q .normal) E R1 L1)->
   (∀ch E R1 L1,EJ ⟨P,n,σ⟩ (zy P fn σ R F post pan (.panic ch)) E R1 L1->EJ ⟨P,n,σ⟩ (Q (.panic ch)) E R1 L1)->CJ ⟨P,n,σ⟩ body Q (fa 0 args) R (L++F)):Tri P f args R L post pan:=
 λσ F w hs=>calls_of_wp hf hb (by rw[hn];exact h σ F _ (λ_ _ _ k=>k) (λ_ _ _ k=>k) (λ_ _ _ _ k=>k) _ w (Fr.start ha) hs)
def ls(a:Act)(r:ResultVar):Sem Value:=
 match r with
 | .tmp t=>pure (a.tmps.getD t undef)
 | .cell x t=>do loadVar t (<-asAddr (a.tmps.getD x undef))
def RV(c:Cx)(E:Env)(R:Hp)(L:List Qj)(r:ResultVar)(v:Value):Prop:=
 ∀(a:Act) (w:World),Fr c.n E a->Sat c.σ R L w->(ls a r).run c.P w=.ok v w
section
variable{c:Cx}{E:Env}{R R0:Hp}{L F:List Qj}{fn:Func}{post:Value->Hp->List Qj->Prop}{pan:List PanicEntry->Hp->List Qj->Prop}
def QH(e:lk E t=some v:=by exact rfl):RV c E R L (.tmp t) v:=λa w hf _=>by
 have:=hf.get t v e;simp[ls,this]
inductive RVs (c:Cx) (E:Env) (R:Hp) (L:List Qj):List ResultVar->List Value->Prop
 |nil:RVs c E R L [] []
 |cons {r:ResultVar} {v:Value} {rs:List ResultVar} {vs:List Value}:RV c E R L r v->RVs c E R L rs vs->RVs c E R L (r::rs) (v::vs)
def QI:List Value->Value
 |[v]=>v
 |vs=>.tuple ⟨vs⟩
def RVs.run(h:RVs c E R L rs vs){a:Act}(hf:Fr c.n E a)(hs:Sat c.σ R L w):
  (rs.mapM (ls a)).run c.P w=.ok vs w:=by
 induction h with
 |nil=>simp
 |cons hr _ ih=>
  have h1:=hr a w hf hs;simp[List.mapM_cons,Iq,h1,Iv,ih,IZ]
def qs(hr:fn.results=⟨rs⟩)(hv:RVs c E R L rs vs)(R':Hp)(L':List Qj)(hR:R0.le R')(hRR:R'=R)(hS:Sub L (L'++F))(hp:post (QI vs) R' L'):
  EJ c (zy c.P fn c.σ R0 F post pan .ret) E R L:=by
 intro a w hf hs;refine⟨hf.dfs,QI vs,?_,R',L',hR,by rw[hRR];exact hs.sub hS,hp⟩;have:=hv.run hf hs
 have e:results fn a.tmps=(do
   let us<-(⟨rs⟩:Array ResultVar).mapM (ls a)
   pure (if h:us.size=1 then us[0]else .tuple us)):=by unfold results;rw[hr];rfl
 rw[e,show(⟨rs⟩:Array ResultVar)=rs.toArray from rfl,List.mapM_toArray];simp only[map_eq_pure_bind,Iq]at this|-;rw[this];congr 1;cases vs with
 |nil=>simp[QI]
 |cons v vs=>cases vs with
  |nil=>simp[QI]
  |cons u vs=>simp[QI]
def ay(hr:fn.results=⟨rs⟩)(hv:RVs c E R L rs vs)(R':Hp)(L':List Qj)(hR:R0.le R')(hRR:R'=R)(hS:Sub L (L'++F))(hp:post (QI vs) R' L'):
  EJ c (zy c.P fn c.σ R0 F post pan .normal) E R L:=qs (c:=c) (pan:=pan) hr hv R' L' hR hRR hS hp
def Zm{ch:List PanicEntry}(R':Hp)(L':List Qj)(hR:R0.le R')(hRR:R'=R)(hS:Sub L (L'++F))(hp:pan ch R' L'):
  EJ c (zy c.P fn c.σ R0 F post pan (.panic ch)) E R L:=λ_ _ hf hs=>⟨hf.dfs,R',L',hR,by rw[hRR];exact hs.sub hS,hp⟩
end
section
variable{c:Cx}{E:Env}{R:Hp}{L:List Qj}{d:Option Tmp}{ty:TypeId}{p:String}{af:Array Edge}{g:Option (Nat×Bool)}
def lu(n:Nat){t e:TypeId}{q:Option Addr}(hT:P.underlying t=some (.pointer e)):(Op.equalIn (n+1) t (.pointer q) (.pointer none)).run P w=.ok q.isNone w:=by
 cases q<;>simp[Op.equalIn,run_underlying hT]
def fW{t e:TypeId}{q:Option Addr}(hT:P.underlying t=some (.pointer e)):(Op.equal t (.pointer q) (.pointer none)).run P w=.ok q.isNone w:=lu 9999 hT
def Yv{t t' e:TypeId}{q:Option Addr}(hT:c.P.underlying t=some (.pointer e))(e1:ev E x=some (.pointer q):=by exact rfl)(e2:ev E y=some (.pointer none):=by exact rfl):
  Yld c E R L ⟨d,.binOp .eql t x y t',ty,p,af,g⟩ (.bool q.isNone):=
 λ_ w hf _=>by simp[execOp,hf.ev e1,hf.ev e2,eqGuard,binOp,fW hT,Oper.quietUpon]
def yT{t t' e:TypeId}{q:Option Addr}(hT:c.P.underlying t=some (.pointer e))(e1:ev E x=some (.pointer q):=by exact rfl)(e2:ev E y=some (.pointer none):=by exact rfl):
  Yld c E R L ⟨d,.binOp .neq t x y t',ty,p,af,g⟩ (.bool (!q.isNone)):=
 λ_ w hf _=>by simp[execOp,hf.ev e1,hf.ev e2,eqGuard,binOp,fW hT,Oper.quietUpon]
def zs(k:IntKind)(m n:Int):Int:=k.wrap ((BitVec.ofInt k.bits m|||BitVec.ofInt k.bits n).toNat:Int)
def kS(k:IntKind)(m n:Int):Int:=k.wrap ((BitVec.ofInt k.bits m&&&BitVec.ofInt k.bits n).toNat:Int)
def kY{t t':TypeId}(e1:ev E x=some (.int k m):=by exact rfl)(e2:ev E y=some (.int k n):=by exact rfl):
  Yld c E R L ⟨d,.binOp .or t x y t',ty,p,af,g⟩ (.int k (zs k m n)):=
 λ_ w hf _=>by simp[execOp,hf.ev e1,hf.ev e2,eqGuard,binOp,Op.intBits,Oper.quietUpon,zs]
def Fa{t t':TypeId}(e1:ev E x=some (.int k m))(e2:ev E y=some (.int k n)):
  Yld c E R L ⟨d,.binOp .and t x y t',ty,p,af,g⟩ (.int k (kS k m n)):=
 λ_ w hf _=>by simp[execOp,hf.ev e1,hf.ev e2,eqGuard,binOp,Op.intBits,Oper.quietUpon,kS]
def j9{t t':TypeId}(e1:ev E x=some (.int k m))(e2:ev E y=some (.int k' n))(h:0<=n):
  Yld c E R L ⟨d,.binOp .shl t x y t',ty,p,af,g⟩ (.int k (k.wrap (m*2^min n.toNat k.bits))):=
 λ_ w hf _=>by
  have:¬n<0:=by omega
  simp[execOp,hf.ev e1,hf.ev e2,eqGuard,binOp,Op.shift,this,Oper.quietUpon]
def aK{t t':TypeId}(e1:ev E x=some (.int k m):=by exact rfl)(e2:ev E y=some (.int k' n):=by exact rfl)(h:0<=n:=by first|omega|(dsimp only;omega)|(simp;done)|(simp;omega)):
  Yld c E R L ⟨d,.binOp .shr t x y t',ty,p,af,g⟩ (.int k (m.fdiv (2^min n.toNat k.bits))):=
 λ_ w hf _=>by
  have:¬n<0:=by omega
  simp[execOp,hf.ev e1,hf.ev e2,eqGuard,binOp,Op.shift,this,Oper.quietUpon]
def cJ{t t':TypeId}(e1:ev E x=some (.int k m))(e2:ev E y=some (.int k n))(h:n≠0):
  Yld c E R L ⟨d,.binOp .rem t x y t',ty,p,af,g⟩ (.int k (m.tmod n)):=
 λ_ w hf _=>by simp[execOp,hf.ev e1,hf.ev e2,eqGuard,binOp,Op.intDiv,h,Oper.quietUpon]
def np{t t':TypeId}(e1:ev E x=some (.int k m))(e2:ev E y=some (.int k n))(h:n≠0):
  Yld c E R L ⟨d,.binOp .quo t x y t',ty,p,af,g⟩ (.int k (k.wrap (m.tdiv n))):=
 λ_ w hf _=>by simp[execOp,hf.ev e1,hf.ev e2,eqGuard,binOp,Op.intDiv,h,Oper.quietUpon]
def xi(hv:evs E xs=some vs)
  (hr:∀w,Sat c.σ R L w->(callFunc f ⟨vs⟩).run c.P w=.ok (.value v) w):Yld c E R L ⟨d,.call {callee:=.value (.func f),args:=⟨xs⟩,argTypes:=ts},ty,p,af,g⟩ v:=
 λa w hf hs=>by
  have e:(Array.mk xs).map a.eval=⟨vs⟩:=by rw[<-hf.evs hv];simp
  simp[execOp,resolve,Act.eval,Deferred.ofValue,invoke,e,hr w hs,Oper.quietUpon]
end
section
variable{c:Cx}{E:Env}{R:Hp}{L:List Qj}{d:Option Tmp}{ty:TypeId}{p:String}{af:Array Edge}{g:Option (Nat×Bool)}
def QV{t e:TypeId}{q:Option Addr}{n k:Nat}(hT:c.P.underlying t=some (.slice e))(e1:ev E x=some (.slice q n k):=by exact rfl):
  Yld c E R L ⟨d,.call {callee:=.builtin .len,args:= #[x],argTypes:= #[t]},ty,p,af,g⟩ (.int .i64 n):=
 λ_ w hf _=>by
  have r:(Builtin.len_ #[t] ty #[.slice q n k]).run c.P w=.ok (goInt n) w:=by simp[Builtin.len_,run_underlying hT]
  simp[execOp,resolve,invoke,builtin,hf.ev e1,r,Oper.quietUpon,goInt]
def QE{t e:TypeId}{n k:Nat}{ik:IntKind}(hT:c.P.underlying t=some (.slice e))(hS:∀w,(sizeOf e).run c.P w=.ok sz w)
  (e1:ev E x=some (.slice (some ⟨b,off,none⟩) n k):=by exact rfl) (e2:ev E y=some (.int ik i):=by exact rfl) (h:0<=i/\i<n:=by first|omega|(dsimp only;omega)|(simp;done)|(simp;omega)):
  Yld c E R L ⟨d,.indexAddr t x y,ty,p,af,g⟩ (.pointer (some ⟨b,off+i.toNat*sz,none⟩)):=
 λ_ w hf _=>by
  have r:(Instr.indexAt t (.slice (some ⟨b,off,none⟩) n k) (.int ik i)).run c.P w=.ok (.pointer (some ⟨b,off+i.toNat*sz,none⟩)) w:=by
   simp[Instr.indexAt,asIntOf,run_underlying hT,h,hS,YH]
  simp[execOp,hf.ev e1,hf.ev e2,r,Oper.quietUpon]
def cN{t e:TypeId}{n:Nat}{ik:IntKind}(hT:c.P.underlying t=some (.array n e))(hS:∀w,(sizeOf e).run c.P w=.ok sz w)
  (e1:ev E x=some (.pointer (some ⟨b,off,none⟩))) (e2:ev E y=some (.int ik i)) (h:0<=i/\i<n):
  Yld c E R L ⟨d,.indexAddr t x y,ty,p,af,g⟩ (.pointer (some ⟨b,off+i.toNat*sz,none⟩)):=
 λ_ w hf _=>by
  have r:(Instr.indexAt t (.pointer (some ⟨b,off,none⟩)) (.int ik i)).run c.P w=.ok (.pointer (some ⟨b,off+i.toNat*sz,none⟩)) w:=by
   simp[Instr.indexAt,asIntOf,run_underlying hT,h,hS,YH,Instr.sureAddr]
  simp[execOp,hf.ev e1,hf.ev e2,r,Oper.quietUpon]
def Ze(a:Option Addr)(l m sz:Nat):Option Addr:=if m=l then a else a.map (·.add (l*sz))
def qu{lo hi:Option Operand}{t e:TypeId}{q:Option Addr}{n k l h:Nat}(hT:c.P.underlying t=some (.slice e))(hS:∀w,(sizeOf e).run c.P w=.ok sz w)
  (e1:ev E x=some (.slice q n k))
  (hl:match lo with|none=>l=0|some o=>∃ik,ev E o=some (.int ik (l:Int))) (hh:match hi with|none=>h=n|some o=>∃ik,ev E o=some (.int ik (h:Int))) (hb:l<=h/\h<=k):
  Yld c E R L ⟨d,.slice t x lo hi none,ty,p,af,g⟩ (.slice (Ze q l k sz) (h-l) (k-l)):=
 λa w hf _=>by
  have r:(Instr.sliceBounds true n k (lo.map a.eval) (hi.map a.eval) none).run c.P w=.ok (l,h,k) w:=by
   have bnd:∀(ik:IntKind) (m y:Nat) (code:BoundsCode),m<=y->(Instr.sliceBound (.int ik (m:Int)) y code).run c.P w=.ok m w:=λik m y code hm=>by
    simp[Instr.sliceBound,asIntOf,hm]
   unfold Instr.sliceBounds
   cases lo with
   |none=>
    simp only at hl;subst hl
    cases hi with
    |none=>simp only at hh;subst hh;simp
    |some o=>obtain⟨ik,hh⟩:=hh;simp[hf.ev hh,bnd _ _ _ _ hb.2]
   |some o=>
    let⟨ik,hl⟩:=hl
    cases hi with
    |none=>simp only at hh;subst hh;simp[hf.ev hl,bnd _ _ _ _ hb.1]
    |some o'=>obtain⟨ik',hh⟩:=hh;simp[hf.ev hl,hf.ev hh,bnd _ _ _ _ hb.1,bnd _ _ _ _ hb.2]
  have r2:(Instr.sliceAt t (.slice q n k) (lo.map a.eval) (hi.map a.eval) none).run c.P w=.ok (.slice (Ze q l k sz) (h-l) (k-l)) w:=by
   unfold Instr.sliceAt
   unfold Instr.slice
   simp[Iq,run_underlying hT,Iv,r,hS,IZ]
   rfl
  simp[execOp,hf.ev e1,r2,Oper.quietUpon]
def Yq{t:TypeId}{n:Nat}(hT:yz c.P t n)(hn:vs.length=n)(e:ev E x=some (.pointer (some ⟨b,off,none⟩)))
  (h:∀j v,vs[j]?=some v->Hp.cell R ⟨b,off+j,none⟩=some v):Yld c E R L ⟨d,.load t x,ty,p,af,g⟩ (.agg ⟨vs⟩):=
 eh hT hn e λ_ hs j v hv=>hs.ro_cell (h j v hv)
def ic{t et:TypeId}{n:Nat}(hT:yz c.P t n)(e:ev E x=some (.pointer (some ⟨b,off,none⟩)))
  (f:Find (QA b l et) L M) (hv:(l.drop off).take n=vs) (hn:vs.length=n):Yld c E R L ⟨d,.load t x,ty,p,af,g⟩ (.agg ⟨vs⟩):=
 eh hT hn e λw hs j v hj=>by
  rw[(hs.find f).blk_cell,qr]
  subst hv
  rw[HS]at hj
  split at hj
  .rwa [HF]at hj
  .cases hj
def rp{s t e:TypeId}{len cap:Nat}{bs:List UInt8}(hS:c.P.underlying s=some (.slice e))(hE:c.P.underlying e=some (.int .u8))(hT:c.P.underlying t=some .string)
  (e1:ev E x=some (.slice (some ⟨b,off,none⟩) len cap)) (hl:bs.length=len) (hc:∀w,Sat c.σ R L w->∀(j:Nat) (u:UInt8),bs[j]?=some u->w.cell? ⟨b,off+j,none⟩=some (.int .u8 (u.toNat:Int))):
  Yld c E R L ⟨d,.convert s t x,ty,p,af,g⟩ (.string (Qs bs)):=
 λ_ w hf hs=>by
  have r2:(convert s t (.slice (some ⟨b,off,none⟩) len cap)).run c.P w=.ok (.string (Qs bs)) w:=by
   subst hl
   exact run_convert_bytes_back w s t e ⟨b,off,none⟩ cap bs hS hE hT λj hj=>by rw[YH];exact hc w hs j bs[j] (by simp[hj])
  simp[execOp,hf.ev e1,r2,Oper.quietUpon]
end
def jA(W:World):Hp:=λb=>W.heap[b]?
def YD{R':Hp}(h:R.le R'){a:Addr}(e:Hp.cell R a=some v):Hp.cell R' a=some v:=by
 unfold Hp.cell at*;cases hb:R a.block with
 |none=>rw[hb]at e;cases e
 |some o=>rw[hb]at e;rw[h _ _ hb];exact e
def vG(W:World):Sat W (jA W) [] W:=⟨rfl,rfl,rfl,λ_ _ h=>h,Hp.emp,λ_ _ h=>(by cases h),λ_=>.inl rfl,trivial⟩
def Sat.below{W w':World}(s:Sat W R L w')(h:(jA W).le R):Below W.heap.size W w':=by
 have hk:∀k,k<W.heap.size->w'.heap[k]?=W.heap[k]?:=λk hk=>by
  have e:(jA W) k=some W.heap[k]:=by simp[jA,hk]
  rw[s.ro _ _ (h _ _ e)];simp[hk]
 refine⟨s.os,s.tape,s.output,?_,hk⟩;rcases Js W.heap.size with h0|h0
 .omega
 have:=hk (W.heap.size-1) (by omega);have e:W.heap[W.heap.size-1]?=some (W.heap[W.heap.size-1]'(by omega)):=Ht (by omega);rw[e]at this;let⟨hh,_⟩:=G9.1 this;omega
def ww{W:World}(h:Tri P f args (jA W) [] (λv _ _=>v=.bool true)):
  Calls P f ⟨args⟩ W λe w'=>e=.returned (.bool true)/\Below W.heap.size W w':=
 (h W [] W (vG W)).mono λe w' ⟨R',L',hR,hs,hp⟩=>by
  cases e with
  |returned v=>exact⟨by rw[hp],hs.below hR⟩
  |panicked ch=>exact hp.elim
  |outgrown=>exact hp.elim
def jL(α:Type):=Hp->List Value->α->Prop
def jE(k:IntKind):jL Int:=λ_ cs x=>cs=[.int k x]/\k.min<=x/\x<=k.max
def n7:jL (List UInt8):=λ_ cs x=>cs=[.string (Qs x)]/\x.length<=maxLen
def lp{α:Type}(n:Nat)(r:jL α):jL (List α):=λR cs xs=>∃q cap,cs=[.slice q xs.length cap]/\xs.length<=cap/\cap<=maxLen/\
 (xs=[]\/∃b off,q=some ⟨b,off,none⟩/\∀(i:Nat) (h:i<xs.length),∃c:List Value,c.length=n/\(∀j u,c[j]?=some u->Hp.cell R ⟨b,off+i*n+j,none⟩=some u)/\r R c xs[i])
def ai{α β:Type}(n:Nat)(r:jL α)(s:jL β):jL (α×β):=λR cs x=>r R (cs.take n) x.1/\s R (cs.drop n) x.2
def q9{α:Type}(len n:Nat)(r:jL α):jL (List α):=λR cs xs=>cs.length=len*n/\xs.length=len/\∀(i:Nat) (h:i<xs.length),r R ((cs.drop (i*n)).take n) xs[i]
def aX{H:Type}(enc:TypeId×Value->H)(P:Program){α:Type}(t:TypeId)(r:jL α):Prop:=
 ∀(W:World) (fuel:Nat) (cs:List Value) (x:DataW H×List MemPlace),DataW.trod enc P W 0 (λ_=>true) true fuel t cs=some x->∃y,r (jA W) cs y
def lK{α:Type}{n:Nat}{P:Nat->α->Prop}(h:∀i,i<n->∃x,P i x):∃xs:List α,xs.length=n/\∀(i:Nat) (hi:i<xs.length),P i xs[i]:=by
 induction n with
 |zero=>exact⟨[],rfl,λi hi=>Gr hi (by simp)⟩
 |succ n ih=>
  let⟨xs,hl,hx⟩:=ih λi hi=>h i (by omega);let⟨x,hx'⟩:=h n (by omega);refine⟨xs++[x],by simp[hl],λi hi=>?_⟩;rcases HK i xs.length with k|k
  .rw[List.getElem_append_left k];exact hx i k
  have:i=xs.length:=by simp at hi;omega
  subst this;simpa[hl]using hx'
section
variable{H:Type}{enc:TypeId×Value->H}{P:Program}
def Fb(h:(Lit.int k n).wf=true):k.min<=n/\n<=k.max:=by
 simpa[Lit.wf]using h
def cV{t:TypeId}(hT:P.underlying t=some (.int k)):aX enc P t (jE k):=λW fuel cs x h=>by
 let⟨n,e1,_,e3⟩:=DataW.trod_int hT h;exact⟨n,e1,Fb e3⟩
def mz{t:TypeId}(hT:P.underlying t=some .string):aX enc P t n7:=λW fuel cs x h=>by
 let⟨s,e1,_,e3⟩:=DataW.trod_string hT h;exact⟨s.data.toList,by rw[e1,<-DE],by simpa using e3⟩
def vW{α:Type}{t e:TypeId}{n:Nat}{r:jL α}(hT:P.underlying t=some (.slice e))(hc:P.cellsOf e=n)(hn:0<n)(hr:aX enc P e r):aX enc P t (lp n r):=λW fuel cs x h=>by
 rcases DataW.trod_slice hT h with⟨rfl,_⟩|⟨a,len,cap,elems,rest,m,rfl,rfl,_,_,hlc,hcm,hel,hx,_⟩;.exact⟨[],none,0,rfl,by simp,by simp[maxLen],.inl rfl⟩
 rw[hc]at hx;have key:∀i,i<len->∃y:α,∃c:List Value,c.length=n/\(∀j u,c[j]?=some u->W.cell? ((a.add (i*n)).add j)=some u)/\r (jA W) c y:=λi hi=>by
  have h1:=hx i hi;obtain⟨y,hy⟩:∃y,elems[i]?=some y:=⟨elems[i],by simp[hel,hi]⟩;rw[hy,Option.bind_eq_some_iff]at h1;let⟨c,hc1,hc2⟩:=h1;let⟨z,hz⟩:=hr W m c y hc2;have hcs:=World.cells?_some hc1
  exact⟨z,c,hcs.2.1,λj u hj=>by
   have hjn:j<n:=by rw[<-hcs.2.1];exact(Gj.1 hj).1
   rw[hcs.2.2 j hjn];exact hj,hz⟩
 let⟨ys,hl,hy⟩:=lK key;refine⟨ys,some a,cap,by rw[hl],by omega,hcm,?_⟩;cases ys with
 |nil=>exact .inl rfl
 |cons y0 ys=>
  refine .inr ?_;let⟨c,hc1,hc2,_⟩:=hy 0 (by simp);have hs:a.spot=none:=by
   have h0:=hc2 0 (c[0]'(by omega)) (by simp);have e0:(a.add (0*n)).add 0=a:=by simp[Addr.add]
   rw[e0]at h0;cases hsp:a.spot with
   |none=>rfl
   |some q=>
    unfold World.cell? at h0;split at h0;.rw[hsp]at h0;simp at h0
    cases h0
  let⟨b,off,sp⟩:=a;subst hs;refine⟨b,off,rfl,λi hi=>?_⟩;let⟨c,h1,h2,h3⟩:=hy i hi;exact⟨c,h1,λj u hj=>by have:=h2 j u hj;rw[YH,YH]at this;exact this,h3⟩
def vX{α:Type}{t e:TypeId}{len n:Nat}{r:jL α}(hT:P.underlying t=some (.array len e))(hc:P.cellsOf e=n)(hct:P.cellsOf t=len*n)(hr:aX enc P e r):aX enc P t (q9 len n r):=λW fuel cs x h=>by
 obtain⟨xs,m,rfl,_,hcl,hxl,hx⟩:=DataW.trod_array hT h;rw[hc]at hx;obtain⟨ys,hl,hy⟩:=lK (n:=len) (P:=λi y=>r (jA W) ((cs.drop (i*n)).take n) y) λi hi=>by
  have h1:=hx i hi;obtain⟨y,hy⟩:∃y,xs[i]?=some y:=⟨xs[i],by simp[hxl,hi]⟩;rw[hy]at h1;exact hr W m _ y h1
 exact⟨ys,by rw[hcl,hct],hl,hy⟩
def kV(enc:TypeId×Value->H)(P:Program){α:Type}(fs:List Field)(off:Nat)(r:jL α):Prop:=
 ∀(W:World) (m:Nat) (cs:List Value),(∀f∈fs,∃x,DataW.trod enc P W 0 (λ_=>true) true m f.type ((cs.drop f.offset).take (P.cellsOf f.type))=some x)->cs.length=off+(fs.map λf=>P.cellsOf f.type).sum->
  ∃y,r (jA W) (cs.drop off) y
def ud{α:Type}{f:Field}{r:jL α}(ho:f.offset=off)(hr:aX enc P f.type r):kV enc P [f] off r:=λW m cs h hl=>by
 let⟨x,hx⟩:=h f (by simp);rw[ho,Gx (by simp at hl|-;omega)]at hx;exact hr W m _ x hx
def dk{α β:Type}{f:Field}{n:Nat}{r:jL α}{s:jL β}(ho:f.offset=off)(hn:P.cellsOf f.type=n)(hr:aX enc P f.type r)(hs:kV enc P fs (off+n) s):
  kV enc P (f::fs) off (ai n r s):=λW m cs h hl=>by
 let⟨x,hx⟩:=h f (by simp);rw[ho,hn]at hx;let⟨y,hy⟩:=hr W m _ x hx;let⟨z,hz⟩:=hs W m cs (λg hg=>h g (by simp[hg])) (by simp[hn]at hl|-;omega);exact⟨(y,z),hy,by rw[HL];exact hz⟩
def oG{α:Type}{t:TypeId}{r:jL α}(hT:P.underlying t=some (.struct ⟨fs⟩))(hl:P.cellsOf t=(fs.map λf=>P.cellsOf f.type).sum)(hr:kV enc P fs 0 r):aX enc P t r:=λW fuel cs x h=>by
 obtain⟨xs,m,rfl,_,hcl,hxl,hx⟩:=DataW.trod_struct hT h
 have:=hr W m cs (λf hf=>by
  obtain⟨i,hi,rfl⟩:=Ij hf;have h1:=hx i fs[i] (by simp[hi]);rw[h1];exact⟨xs[i]'(by rw[hxl];simpa using hi),by simp[hxl,hi]⟩) (by rw[hcl,hl];simp)
 simpa using this
end
end V
end Go.Proofs.YtenfjpigffjgmaaGreat
namespace Go.Proofs.YtenfjpigffjgmaaGreat
def own:ownKnob Tryz.prog.godebug=none:=by kernel_rfl
def lP:laidOutB Tryz.prog=true:=by kernel_rfl
end Go.Proofs.YtenfjpigffjgmaaGreat
set_option linter.unusedSimpArgs false
set_option linter.unusedVariables false
namespace Go.Proofs.YtenfjpigffjgmaaGreat
open Go.RowKit
namespace V
variable{n sz b i j k off id m d by_ h cap:Nat}{x y:Operand}{v u:Value}{xs l vs news cs ys:List Value}{R R':Hp}{w σ:World}{L M L0 G F pre:List Qj}{o:Oper}{a:Act}{P:Program}{is Ts:List Nat}{p:Prop}{ts:Array TypeId}{K:Env->Prop}{fz:Nat×Nat}{f:FuncId}{listed:Array Bool}{K' q:Act->World->Prop}{r:Result Next}{tl:List Oper}{A:Qj}{bs:List UInt8}{post:Value->Hp->List Qj->Prop}{pan:List PanicEntry->Hp->List Qj->Prop}{E:Env}{Qx:Exit->Act->World->Prop}{PX:List PanicEntry->World->Prop}{c:Cx}{fn:Func}
def ZH(ops:Array Oper):Nat->Nat->Nat->Bool
 |0,_,_=>false
 |k+1,i,j=>match ops[i]? with
  |none=>false
  |some o=>o.after.toList.any λe=>Region.binds .any e&&(Nat.beq e.on j||ZH ops k e.on j)
def Ym(ops:Array Oper)(i:Nat)(j:Nat):Bool:=
 match ops[i]?,ops[j]? with
 |some o,some u=>match u.dst with
  |some d=>(o.looksAt ops).contains d
  |none=>false
 |_,_=>true
def qc(ops:Array Oper)(i j:Nat):Bool:=
 match ops[i]?,ops[j]? with
 |some o,some u=>match u.dst with
  |some d=>o.dst==some d
  |none=>false
 |_,_=>true
def zU(ops:Array Oper)(i:Nat):Bool:=
 match ops[i]? with
 |some o=>match o.op with| .select _ _=>false|_=>true
 |none=>false
def zw(ops:Array Oper):List Nat->Bool
 |i::j::l=>ZH ops ops.size j i&&zw ops (j::l)
 |_=>true
def aO(ops:Array Oper):List Nat->Bool
 |[]=>true
 |i::l=>(l.all λj=> !Ym ops i j&& !qc ops i j&& !qc ops j i&&(ZH ops ops.size j i|| !Ym ops j i))&&aO ops l
def iS(ops:Array Oper):Bool:=(List.range ops.size).all λi=>match ops[i]? with
 |none=>false
 |some o=>o.after.toList.all λe=> !Region.binds .any e||Nat.blt e.on i
def aQ(ops:Array Oper)(Fs Cs Ts:List Nat):Bool:=
 iS ops&&((List.range ops.size).all λi=>Fs.contains i||Cs.contains i||Ts.contains i)&&Fs.Nodup&&Cs.Nodup&&Ts.Nodup&&
 (Fs.all λi=> !Ym ops i i)&&(Fs.all λi=>Nat.blt i ops.size&& !Cs.contains i&& !Ts.contains i)&&(Cs.all λi=>Nat.blt i ops.size&& !Ts.contains i)&&(Ts.all λi=>Nat.blt i ops.size)&&
 aO ops Fs&&zw ops Cs&&(Fs.all λi=>zU ops i)&&(Cs.all λi=>zU ops i)&&
 (Fs.all λi=>Cs.all λk=> !Ym ops i k&& !qc ops i k&& !qc ops k i&&(ZH ops ops.size k i|| !Ym ops k i))&&
 (Fs.all λi=>Ts.all λk=>ZH ops ops.size k i)&&(Cs.all λi=>Ts.all λk=>ZH ops ops.size k i)
section
variable{c:Cx}{ops:Array Oper}{Q:Exit->Act->World->Prop}{R:Hp}{L:List Qj}
def nG(c:Cx)(ops:Array Oper)(R:Hp)(L:List Qj)(i:Nat)(E:Env)(v:Value)(E':Env):Prop:=
 ∃o d,ops[i]?=some o/\o.dst=some d/\Nat.blt d c.n=true/\E'=(d,v)::E/\((Wn c ops E o true/\∀R',R.le R'->∀G,Yld c E R' (L++G) o v)\/(Wn c ops E o false/\v=undef))
def FJ(c:Cx)(ops:Array Oper)(R:Hp)(L:List Qj)(K:Env->Prop):List Nat->Env->Prop
 |[],E=>K E
 |i::is,E=>∃v E',nG c ops R L i E v E'/\FJ c ops R L K is E'
def XJ(c:Cx)(ops:Array Oper)(L:List Qj)(K:Env->Hp->List Qj->Prop):List Nat->Env->Hp->List Qj->Prop
 |[],E,R,G=>K E R G
 |i::is,E,R,G=>∃o,ops[i]?=some o/\∀a w,Fr c.n E a->Sat c.σ R (L++G) w->
   if Region.wanted o (yielded ops a.tmps)then o.wp c.P a w (λa' w'=>∃u E' R' G',R.le R'/\a'=a.put o.dst u/\Fr c.n E' a'/\Sat c.σ R' (L++G') w'/\XJ c ops L K is E' R' G') (λ_ _ _=>False)
   else∃E' R' G',R.le R'/\Fr c.n E' (a.put o.dst undef)/\Sat c.σ R' (L++G') w/\XJ c ops L K is E' R' G'
def Closed1(ops:Array Oper)(listed:Array Bool):Prop:=∀i o,ops[i]?=some o->listed.getD i false=true->∀e∈o.after,Region.binds .any e=true->listed.getD e.on false=true
def aW(hc:Closed1 ops listed):∀(k i j:Nat),ZH ops k i j=true->(∀o,ops[i]?=some o->∀e∈o.after,Region.binds .any e=true->listed.getD e.on false=true)->listed.getD j false=true:=by
 intro k;induction k with
 |zero=>intro i j h;cases h
 |succ k ih=>
  intro i j h hi;unfold ZH at h;cases ho:ops[i]? with
  |none=>rw[ho]at h;cases h
  |some o=>
   rw[ho]at h;simp only[List.any_eq_true,G6,HZ]at h;let⟨e,he,hb,h⟩:=h;have hl:=hi o ho e (by simpa using he) hb;rcases h with h|h
   .rw[<-Is h];exact hl
   exact ih e.on j h λo' ho' e' he' hb'=>hc e.on o' ho' hl e' he' hb'
def Yd(ops:Array Oper)(a:Act):List (Nat×Value)->Act
 |[]=>a
 |(i,v)::l=>(Yd ops a l).put ((ops[i]?).bind (·.dst)) v
def XZ(ops:Array Oper)(i:Nat):Option Tmp:=(ops[i]?).bind (·.dst)
def QK(c:Cx)(ops:Array Oper)(R:Hp)(L:List Qj)(x:Nat×Value)(a:Act):Prop:=
 ∃o,ops[x.1]?=some o/\(∀cs b,o.op≠ .select cs b)/\∀R',R.le R'->∀G w,Sat c.σ R' (L++G) w->(Region.wanted o (yielded ops a.tmps)=true/\o.quietAt c.P a (Sat c.σ R' (L++G)) w x.2)\/(Region.wanted o (yielded ops a.tmps)=false/\x.2=undef)
def aq(ho:ops[i]?=some o)(h:Ym ops i j=false):∀d,XZ ops j=some d->d∉o.looksAt ops:=by
 intro d hd hm;unfold XZ at hd;unfold Ym at h;cases hj:ops[j]? with
 |none=>rw[hj]at hd;cases hd
 |some u=>
  rw[hj]at hd;simp only[Option.bind_some]at hd;rw[ho,hj]at h;simp only[hd]at h;have:(o.looksAt ops).contains d=true:=by simpa using hm
  rw[this]at h;cases h
def yY(hi:i<ops.size)(h:qc ops i j=false):∀d,XZ ops j=some d->XZ ops i≠some d:=by
 intro d hd hm;unfold XZ at hd hm;unfold qc at h;cases hj:ops[j]? with
 |none=>rw[hj]at hd;cases hd
 |some u=>
  cases hii:ops[i]? with
  |none=>rw[hii]at hm;cases hm
  |some o=>
   rw[hj]at hd;rw[hii]at hm;simp only[Option.bind_some]at hd hm;rw[hii,hj]at h;simp only[hd,hm]at h;simp at h
def QK.put{x:Nat×Value}(h:Ym ops x.1 j=false)(q:QK c ops R L x a):QK c ops R L x (a.put (XZ ops j) v):=by
 let⟨o,ho,hs,hq⟩:=q;have hl:=aq ho h;refine⟨o,ho,hs,λR' hR G w hw=>?_⟩;rw[wanted_put o a _ v hl];have:=hq R' hR G w hw;unfold Oper.quietAt at*;rwa [execOp_put o hs a _ v hl]
def QK.unput{x:Nat×Value}(h:Ym ops x.1 j=false)(q:QK c ops R L x (a.put (XZ ops j) v)):QK c ops R L x a:=by
 let⟨o,ho,hs,hq⟩:=q;have hl:=aq ho h;refine⟨o,ho,hs,λR' hR G w hw=>?_⟩;have:=hq R' hR G w hw;rw[wanted_put o a _ v hl]at this;unfold Oper.quietAt at*;rwa [execOp_put o hs a _ v hl]at this
def QK.unvirt{x:Nat×Value}{a:Act}:∀{p:List (Nat×Value)},(∀y∈p,Ym ops x.1 y.1=false)->QK c ops R L x (Yd ops a p)->QK c ops R L x a
 |[],_,q=>q
 |y::p,h,q=>QK.unvirt (p:=p) (λz hz=>h z (by simp[hz])) (QK.unput (h y (by simp)) q)
def bN{d:Option Tmp}{u:Value}:∀(p:List (Nat×Value)) (a:Act),(∀y∈p,∀e,d=some e->XZ ops y.1≠some e)->Yd ops (a.put d u) p=(Yd ops a p).put d u
 |[],_,_=>rfl
 |(i,v)::p,a,h=>by
  simp[Yd];rw[bN p a (λy hy=>h y (by simp[hy]))];exact Act.put_comm _ u v (h (i,v) (by simp))
def ja{x:Nat×Value}:∀(p1 p2:List (Nat×Value)) (a:Act),(∀y∈p1++p2,∀e,XZ ops x.1=some e->XZ ops y.1≠some e)->Yd ops a (p1++x::p2)=Yd ops (a.put (XZ ops x.1) x.2) (p1++p2)
 |[],p2,a,h=>by
  simp[Hr,Yd]
  rw[bN p2 a (λy hy=>h y (by simpa using hy))]
  rfl
 |(i,v)::p1,p2,a,h=>by
  simp[HW,Yd]
  rw[ja p1 p2 a (λy hy=>h y (by simp at hy|-;exact .inr hy))]
def mh{V:Act}{K:Act->World->Prop}(h:o.upon c.P V K' (λ_ _ _=>False) r)(hk:∀u w',K' (V.put o.dst u) w'->K (a.put o.dst u) w')
  (hd:∀(q:Deferred) w',¬K' (({V with defers:=q::V.defers}:Act).put o.dst undef) w'):o.upon c.P a K Q r:=by
 cases r with
 |ok n w'=>
  cases n<;>simp[Oper.upon]at h|- <;>first|exact hk _ _ h|exact(hd _ _ h).elim|exact h.elim|skip
  case enter f args=>
   refine h.mono λe w'' hp=>?_;cases e with
   |returned v=>exact hk _ _ hp
   |panicked ch=>exact hp.elim
   |outgrown=>exact Gr hp (by simp[LetsOut])
  case row row args=>exact h.mono λv w'' hp=>hk _ _ hp
 |halt x w'=>cases x<;>simp[Oper.upon]at h
def jw:∀{l:List Nat},aO ops l=true->∀{i j:Nat},i∈l->j∈l->i≠j->(Ym ops i j=false\/ZH ops ops.size i j=true)/\qc ops i j=false
 |[],_,_,_,h,_,_=>by cases h
 |k::l,h,i,j,hi,hj,hne=>by
  simp[aO,G6,Hm,HX,HZ]at h;let⟨h1,h2⟩:=h;rcases Gn.1 hi with rfl|hi'
  .rcases Gn.1 hj with rfl|hj';.exact Gr rfl hne
   have:=h1 j hj';exact⟨.inl this.1.1.1,this.1.1.2⟩
  rcases Gn.1 hj with rfl|hj'
  .have:=h1 i hi';refine⟨?_,this.1.2⟩;rcases this.2 with h|h
   .exact .inr h
   exact .inl h
  exact jw h2 hi' hj' hne
def mq{l:List Nat}(h:zw ops (i::l)=true):zw ops l=true:=by
 cases l with
 |nil=>rfl
 |cons j l=>simp[zw,G6]at h;exact h.2
def mr:∀{l:List Nat} {i:Nat} {k:Nat},zw ops (k::l)=true->i∈l->∃j,j∈k::l/\ZH ops ops.size i j=true
 |[],_,_,_,h=>by cases h
 |j::l,i,k,h,hi=>by
  simp[zw,G6]at h;rcases Gn.1 hi with rfl|hi'
  .exact⟨k,by simp,h.1⟩
  let⟨m,hm,ha⟩:=mr (k:=j) h.2 hi';exact⟨m,by simp[Gn]at hm|-;exact .inr hm,ha⟩
def oo{l:List Nat}(h:zw ops l=true)(hi:i∈l)(hu:∀j∈l,listed.getD j false=false)
  (ha:∀j,ZH ops ops.size i j=true->listed.getD j false=true):∃l',l=i::l':=by
 cases l with
 |nil=>cases hi
 |cons k l=>
  rcases Gn.1 hi with rfl|hi';.exact⟨l,rfl⟩
  let⟨j,hj,haj⟩:=mr h hi';have:=ha j haj;rw[hu j hj]at this;cases this
def jG(hl:iS ops=true)(hs:listed.size=ops.size):∀i,i<ops.size->listed.getD i false=false->∃j,j∈Region.ready .any ops listed:=by
 intro i;induction i using Nat.strongRecOn with
 |_ i ih=>
  intro hi hu;unfold iS at hl;rw[Hm]at hl;have h0:=hl i (by simpa using hi);have ho:ops[i]?=some ops[i]:=by simp[hi]
  rw[ho]at h0;simp only[Hm,HZ,HX]at h0;by_cases hall:∀e∈ops[i].after,Region.binds .any e=true->listed.getD e.on false=true;.refine⟨i,mem_ready.2 ⟨?_,_,ho,hall⟩⟩;rw[GL]at hu|-;rw[Ht (by omega)]at hu|-;simpa using hu
  have⟨e,h1⟩:=KG.1 hall;have⟨he,h2⟩:=KG.1 h1;have⟨hb,h3⟩:=KG.1 h2;rcases h0 e (by simpa using he)with h|h
  .rw[hb]at h;cases h
  have hlt:e.on<i:=Hw (HM _) (Gz h);exact ih e.on hlt (by omega) (by simpa using h3)
def bT(hi:i<listed.size):(listed.setIfInBounds i true).getD j false=if j=i then true else listed.getD j false:=by
 by_cases h:j=i;.subst h;simp[hi]
 rw[ac h,GL,Ld (Mk h),<-GL]
def Closed1.set(hc:Closed1 ops listed)(hs:listed.size=ops.size)(hr:i∈Region.ready .any ops listed):Closed1 ops (listed.setIfInBounds i true):=by
 let⟨h0,o,ho,hall⟩:=mem_ready.1 hr;have hi:i<listed.size:=by rw[hs];exact(G9.1 ho).1
 intro j u hj hl e he hb;rw[bT hi]at hl|-;split;.rfl
 by_cases hji:j=i;.subst hji;rw[ho]at hj;cases hj;exact hall e he hb
 rw[ac hji]at hl;exact hc j u hj hl e he hb
def aa{o:Oper}{a:Act}:∀{p:List (Nat×Value)},(∀y∈p,∀d,XZ ops y.1=some d->d∉o.looksAt ops)->Region.wanted o (yielded ops (Yd ops a p).tmps)=Region.wanted o (yielded ops a.tmps)
 |[],_=>rfl
 |(i,v)::p,h=>by
  simp[Yd];rw[show((ops[i]?).bind (·.dst))=XZ ops i from rfl,wanted_put o _ _ v (h (i,v) (by simp))];exact aa (p:=p) λy hy=>h y (by simp[hy])
def aj{o:Oper}(hs:∀cs b,o.op≠ .select cs b){a:Act}:∀{p:List (Nat×Value)},(∀y∈p,∀d,XZ ops y.1=some d->d∉o.looksAt ops)->execOp (Yd ops a p).eval o=execOp a.eval o
 |[],_=>rfl
 |(i,v)::p,h=>by
  simp[Yd];rw[show((ops[i]?).bind (·.dst))=XZ ops i from rfl,execOp_put o hs _ _ v (h (i,v) (by simp))];exact aj hs (p:=p) λy hy=>h y (by simp[hy])
def zo(ho:ops[i]?=some o)(h:zU ops i=true):∀cs b,o.op≠ .select cs b:=by
 intro cs b he;unfold zU at h;rw[ho]at h;simp only[he]at h;cases h
def oq:∀{pre l:List Nat},zw ops (pre++l)=true->zw ops l=true
 |[],_,h=>h
 |i::pre,l,h=>oq (pre:=pre) (mq h)
def TK(c:Cx)(ops:Array Oper)(Q:Exit->Act->World->Prop)(R:Hp)(Ts:List Nat)(L:List Qj)(E:Env):Prop:=
 ∀fuel listed a w,listed.size=ops.size->Closed1 ops listed->(∀j,j<ops.size->(listed.getD j false=false↔j∈Ts))->Ts.length<=fuel->Fr c.n E a->Sat c.σ R L w->wpAny c.P .any ops Q fuel listed a w
def Gc(c:Cx)(ops:Array Oper)(Q:Exit->Act->World->Prop)(R:Hp)(L:List Qj)(Fs Cs Ts:List Nat)(fuel:Nat)(listed:Array Bool)(a:Act)(w:World):Prop:=
 listed.size=ops.size/\Closed1 ops listed/\
 ∃(pend:List (Nat×Value)) (cs:List Nat) (E:Env) (R1:Hp) (G:List Qj),R.le R1/\(∀x∈pend,x.1∈Fs)/\(pend.map (·.1)).Nodup/\(∃pre,Cs=pre++cs)/\
   XJ c ops L (λE R G=>TK c ops Q R Ts (L++G) E) cs E R1 G/\Fr c.n E (Yd ops a pend)/\Sat c.σ R1 (L++G) w/\(∀x∈pend,QK c ops R L x (Yd ops a pend))/\
   (∀j,j<ops.size->(listed.getD j false=false↔j∈pend.map (·.1)\/j∈cs\/j∈Ts))/\pend.length+cs.length+Ts.length<=fuel
def y7{Fs Cs:List Nat}(hB:aQ ops Fs Cs Ts=true):∀(fuel:Nat) (listed:Array Bool) (a:Act) (w:World),Gc c ops Q R L Fs Cs Ts fuel listed a w->wpAny c.P .any ops Q fuel listed a w:=by
 simp only[aQ,G6,Hm,HX,HZ,HR]at hB;obtain⟨⟨⟨⟨⟨⟨⟨⟨⟨⟨⟨⟨⟨⟨⟨hlow,hcover⟩,hFn⟩,hCn⟩,hTn⟩,hself⟩,hF⟩,hC⟩,hT⟩,hpair⟩,hrow⟩,hFs⟩,hCs⟩,hFC⟩,hFT⟩,hCT⟩:=hB;have hFlt:∀i∈Fs,i<ops.size:=λi hi=>Hw (HM _) (Gz (hF i hi).1.1);have hClt:∀i∈Cs,i<ops.size:=λi hi=>Hw (HM _) (Gz (hC i hi).1);intro fuel;induction fuel with
 |zero=>
  rintro listed a w ⟨hs,hc,pend,cs,E,R1,G,hR1,hp,hpn,_,hX,hE,hw,hq,hl,hf⟩;have e1:=Hk (l:=pend) (by omega);have e2:=Hk (l:=cs) (by omega);subst e1 e2;exact hX 0 listed a w hs hc (λj hj=>(hl j hj).trans (by simp)) (by simpa using hf) hE hw
 |succ fuel ih=>
  rintro listed a w ⟨hs,hc,pend,cs,E,R1,G,hR1,hp,hpn,⟨pre,hpre⟩,hX,hE,hw,hq,hl,hf⟩;by_cases hall:pend=[]/\cs=[];.obtain⟨rfl,rfl⟩:=hall;exact hX (fuel+1) listed a w hs hc (λj hj=>(hl j hj).trans (by simp)) (by simpa using hf) hE hw
  have hpu:∀y∈pend,listed.getD y.1 false=false:=λy hy=>(hl _ (hFlt _ (hp y hy))).2 (.inl (Gu.2 ⟨y,hy,rfl⟩));have hcsu:∀j∈cs,listed.getD j false=false:=λj h=>(hl _ (hClt _ (by rw[hpre];simp[h]))).2 (.inr (.inl h));refine⟨λhr=>?_,λi hi=>?_⟩
  .exfalso;have:∃j,j<ops.size/\listed.getD j false=false:=by
    cases hpe:pend with
    |cons y p=>exact⟨y.1,hFlt _ (hp y (by rw[hpe];simp)),hpu y (by rw[hpe];simp)⟩
    |nil=>cases hce:cs with
     |cons k p=>exact⟨k,hClt _ (by rw[hpre,hce];simp),hcsu k (by rw[hce];simp)⟩
     |nil=>exact Gr ⟨hpe,hce⟩ hall
   obtain⟨j,hj,hu⟩:=this;obtain⟨k,hk⟩:=jG hlow hs j hj hu;rw[hr]at hk;cases hk
  obtain⟨h0,o,ho,hdeps⟩:=mem_ready.1 hi;have hilt:i<ops.size:=(G9.1 ho).1;have hu:listed.getD i false=false:=by
   rw[GL]at h0|-;rw[Ht (by omega)]at h0|-;simpa using h0
  have hanc:∀j,ZH ops ops.size i j=true->listed.getD j false=true:=λj hj=>aW hc _ i j hj λo' ho'=>by rw[ho]at ho';cases ho';exact hdeps
  have hs':(listed.setIfInBounds i true).size=ops.size:=by simpa using hs
  have hc':Closed1 ops (listed.setIfInBounds i true):=hc.set hs hi;have hgd:∀j,(listed.setIfInBounds i true).getD j false=if j=i then true else listed.getD j false:=λj=>bT (by omega);have hrow':zw ops cs=true:=by rw[hpre]at hrow;exact oq hrow
  skip;by_cases hip:i∈pend.map (·.1)
  .
   obtain⟨x,hx,rfl⟩:=Gu.1 hip
   obtain⟨p1,p2,rfl⟩:=J0 hx
   have hxF:=hp x hx
   have hnot:∀y∈p1++p2,y.1≠x.1:=by
    intro y hy he
    simp only[Ie,Hf]at hpn
    have hn:=Hb.1 hpn
    rcases GE.1 hy with h|h
    .exact hn.2.2 y.1 (Gu.2 ⟨y,h,rfl⟩) x.1 (by simp) he
    .have:=(Id.1 hn.2.1).1
     exact this (Gu.2 ⟨y,h,he⟩)
   have hsub:∀y∈p1++p2,y∈p1++x::p2:=λy hy=>by simp at hy|-;rcases hy with h|h<;>simp[h]
   have hlook:∀y∈p1++x::p2,Ym ops x.1 y.1=false:=by
    intro y hy
    by_cases he:y.1=x.1
    .rw[he];exact hself _ hxF
    .rcases(jw hpair hxF (hp y hy) (Mk he)).1 with h|h
     .exact h
     .have:=hanc _ h;rw[hpu y hy]at this;cases this
   have hqa:QK c ops R L x a:=QK.unvirt hlook (hq x hx)
   obtain⟨o',ho',hsel,hqq⟩:=hqa
   rw[ho]at ho';cases ho'
   have hvt:=ja (ops:=ops) (x:=x) p1 p2 a λy hy e he=>yY (hFlt _ (hp y (hsub y hy))) (jw hpair (hp y (hsub y hy)) hxF (hnot y hy)).2 e he
   have next:∀w',Sat c.σ R1 (L++G) w'->wpAny c.P .any ops Q fuel (listed.setIfInBounds x.1 true) (a.put o.dst x.2) w':=by
    intro w' hw'
    have hod:o.dst=XZ ops x.1:=by simp[XZ,ho]
    rw[hod]
    refine ih _ _ _ ⟨hs',hc',p1++p2,cs,E,R1,G,hR1,λy hy=>hp y (hsub y hy),?_,⟨pre,hpre⟩,hX,by rw[<-hvt];exact hE,hw',λy hy=>by rw[<-hvt];exact hq y (hsub y hy),λj hj=>?_,?_⟩
    .simp only[Ie,Hf]at hpn|-
     have hn:=Hb.1 hpn
     exact Hb.2 ⟨hn.1,(Id.1 hn.2.1).2,λu hu v hv=>hn.2.2 u hu v (by simp[hv])⟩
    .rw[hgd]
     by_cases hji:j=x.1
     .rw[an hji]
      simp only[IA,false_iff,LC]
      subst hji
      refine⟨λh=>?_,λh=>?_,λh=>?_⟩
      .obtain⟨y,hy,he⟩:=Gu.1 h;exact hnot y hy he
      .have:=(hF _ hxF).1.2;rw[hpre]at this;simp[h]at this
      .have:=(hF _ hxF).2;simp[h]at this
     .rw[ac hji,hl j hj]
      simp only[Ie,Hf,GE,Gn]
      constructor
      .rintro((h|h|h)|h)<;>first|exact Gr h hji|simp[h]
      .rintro((h|h)|h)<;>simp[h]
    .simp at hf|-;omega
   unfold wpOp
   rw[ho]
   simp only
   cases hwt:Region.wanted o (yielded ops a.tmps)with
   |true=>
    rw[an rfl]
    refine .inl (Kh (C:=Sat c.σ R1 (L++G)) (K:=λa'=>a'=a.put o.dst x.2) hw (λa' w' hw' ha'=>by subst ha';exact next w' hw') ⟨x.2,λw' hw'=>?_,rfl⟩)
    rcases hqq R1 hR1 G w' hw' with h|h
    .exact h.2
    .rw[hwt]at h;cases h.1
   |false=>
    rw[ac (by decide)]
    rcases hqq R1 hR1 G w hw with h|h
    .rw[hwt]at h;cases h.1
    .have:=next w hw;rw[h.2]at this;exact this
  have hmem:i∈cs:=by
   rcases(hl i hilt).1 hu with h|h|h
   .exact Gr h hip
   .exact h
   exfalso;cases hpe:pend with
   |cons y p=>have:=hanc _ (hFT _ (hp y (by rw[hpe];simp)) i h);rw[hpu y (by rw[hpe];simp)]at this;cases this
   |nil=>cases hce:cs with
    |cons k p=>have:=hanc _ (hCT k (by rw[hpre,hce];simp) i h);rw[hcsu k (by rw[hce];simp)]at this;cases this
    |nil=>exact Gr ⟨hpe,hce⟩ hall
  obtain⟨l',hl'⟩:=oo hrow' hmem hcsu hanc;cases cs with
  |nil=>cases hmem
  |cons k cs'=>
   simp only[IH]at hl';obtain⟨rfl,_⟩:=hl';have hkC:k∈Cs:=by rw[hpre];simp
   have hlk:∀y∈pend,∀d,XZ ops y.1=some d->d∉o.looksAt ops:=by
    intro y hy;refine aq ho ?_;rcases(hFC _ (hp y hy) k hkC).2 with h|h
    .have:=hanc _ h;rw[hpu y hy]at this;cases this
    exact h
   have hsel:=zo ho (hCs k hkC);obtain⟨o',ho',hstep⟩:=hX;rw[ho]at ho';cases ho';have hst:=hstep _ w hE hw;rw[aa hlk]at hst;have hod:o.dst=XZ ops k:=by simp[XZ,ho]
   have hvp:∀u,Yd ops (a.put o.dst u) pend=(Yd ops a pend).put o.dst u:=λu=>bN pend a λy hy e he=>by
    rw[hod]at he;exact yY (hFlt _ (hp y hy)) ((hFC _ (hp y hy) k hkC).1.1.2) e he
   have next:∀u w' E' R2 G',R1.le R2->Fr c.n E' ((Yd ops a pend).put o.dst u)->Sat c.σ R2 (L++G') w'->XJ c ops L (λE R G=>TK c ops Q R Ts (L++G) E) cs' E' R2 G'->
     wpAny c.P .any ops Q fuel (listed.setIfInBounds k true) (a.put o.dst u) w':=by
    intro u w' E' R2 G' hle hE' hw' hX'
    refine ih _ _ _ ⟨hs',hc',pend,cs',E',R2,G',Hp.le_trans hR1 hle,hp,hpn,⟨pre++[k],by rw[hpre];simp⟩,hX',by rw[hvp];exact hE',hw',λy hy=>?_,λj hj=>?_,?_⟩
    .rw[hvp,hod]
     exact QK.put ((hFC _ (hp y hy) k hkC).1.1.1) (hq y hy)
    .rw[hgd]
     by_cases hji:j=k
     .rw[an hji]
      simp only[IA,false_iff,LC]
      subst hji
      refine⟨hip,λh=>?_,λh=>?_⟩
      .rw[hpre]at hCn
       have hn:=(Hb.1 hCn).2.1
       exact(Id.1 hn).1 h
      .have:=(hC _ hkC).2;simp[h]at this
     .rw[ac hji,hl j hj]
      simp only[Gn]
      constructor
      .rintro(h|(h|h)|h)<;>first|exact Gr h hji|simp[h]
      .rintro(h|h|h)<;>simp[h]
    .simp at hf|-;omega
   unfold wpOp;rw[ho];simp only;cases hwt:Region.wanted o (yielded ops a.tmps)with
   |true=>
    rw[hwt,an rfl]at hst;rw[an rfl];refine .inl ?_;unfold Oper.wp at hst|-;rw[aj hsel hlk]at hst;refine mh hst ?_ ?_;.rintro u w' ⟨u',E',R2,G',hle,he,h1,h2,h3⟩;exact next u w' E' R2 G' hle h1 h2 h3
    rintro q w' ⟨u',E',R2,G',hle,he,h1,h2,h3⟩;have:=h1.dfs;cases hd2:o.dst<;>simp[Act.put,hd2]at this
   |false=>
    rw[hwt,ac (by decide)]at hst;rw[ac (by decide)];obtain⟨E',R2,G',hle,h1,h2,h3⟩:=hst;exact next undef w E' R2 G' hle h1 h2 h3
def lx(hlow:iS ops=true):∀(ts:List Nat) (fuel:Nat) (listed:Array Bool) (a:Act) (w:World),zw ops ts=true->ts.Nodup->(∀j∈ts,j<ops.size)->listed.size=ops.size->Closed1 ops listed->
  (∀j,j<ops.size->(listed.getD j false=false↔j∈ts))->ts.length<=fuel->wpOps c.P ops Q ts a w->wpAny c.P .any ops Q fuel listed a w
 |[],fuel,listed,a,w,_,_,_,hs,_,hl,_,hW=>by
  refine wpAny_done ?_ hW fuel
  cases hr:Region.ready .any ops listed with
  |nil=>rfl
  |cons j l=>
   have hj:j∈Region.ready .any ops listed:=by rw[hr];simp
   obtain⟨h0,o,ho,_⟩:=mem_ready.1 hj
   have hlt:=(G9.1 ho).1
   have hu:listed.getD j false=false:=by
    rw[GL]at h0|-
    rw[Ht (by omega)]at h0|-
    simpa using h0
   have:=(hl j hlt).1 hu
   cases this
 |k::ts,fuel,listed,a,w,hrow,hnd,hlt,hs,hc,hl,hf,hW=>by
  obtain⟨fuel,rfl⟩:∃q,fuel=q+1:=⟨fuel-1,by simp at hf;omega⟩
  refine⟨λhr=>?_,λi hi=>?_⟩
  .obtain⟨q,hq⟩:=jG hlow hs k (hlt k (by simp)) ((hl k (hlt k (by simp))).2 (by simp))
   rw[hr]at hq;cases hq
  .obtain⟨h0,o,ho,hdeps⟩:=mem_ready.1 hi
   have hilt:i<ops.size:=(G9.1 ho).1
   have hu:listed.getD i false=false:=by
    rw[GL]at h0|-
    rw[Ht (by omega)]at h0|-
    simpa using h0
   have hanc:∀j,ZH ops ops.size i j=true->listed.getD j false=true:=λj hj=>aW hc _ i j hj λo' ho'=>by rw[ho]at ho';cases ho';exact hdeps
   obtain⟨l',hl'⟩:=oo hrow ((hl i hilt).1 hu) (λj hj=>(hl j (hlt j hj)).2 hj) hanc
   obtain⟨rfl,rfl⟩:=hl'
   refine wpOp_mono (λa' w' h=>lx hlow ts fuel _ a' w' (mq hrow) (Id.1 hnd).2 (λj hj=>hlt j (by simp[hj])) (by simpa using hs) (hc.set hs hi) (λj hj=>?_) (by simpa using hf) h) hW
   rw[bT (by omega)]
   by_cases hji:j=k
   .rw[an hji]
    subst hji
    simp[(Id.1 hnd).1]
   .rw[ac hji,hl j hj]
    simp[hji]
end
section
variable{c:Cx}{l:List Oper}{Q:Exit->Act->World->Prop}{R:Hp}{L:List Qj}{E:Env}
def zY:List Oper->Nat->Option Oper
 |[],_=>none
 |o::_,0=>some o
 |_::l,n+1=>zY l n
def jR(l:List Oper):∀n,zY l n=l[n]?:=by
 induction l with
 |nil=>intro n;simp[zY]
 |cons x l ih=>intro n;cases n with|zero=>simp[zY]|succ n=>simp[zY,ih]
def cX(l:List Oper):List Nat->Option (List Oper)
 |[]=>some []
 |i::is=>match zY l i,cX l is with
  |some o,some os=>some (o::os)
  |_,_=>none
theorem di{P:Program}:∀{is:List Nat} {os:List Oper},cX l is=some os->∀{a:Act} {w:World},wpList P l.toArray Q os a w->wpOps P l.toArray Q is a w
 |[],os,h,a,w,hw=>by simp[cX,Hi]at h;subst h;exact hw
 |i::is,os,h,a,w,hw=>by
  simp[cX]at h;split at h
  .rename_i o os' h1 h2;simp[Hi]at h;subst h;rw[jR]at h1;have ho:l.toArray[i]?=some o:=by simpa using h1
   simp[wpOps,ho];have ih:∀a w,wpList P l.toArray Q os' a w->wpOps P l.toArray Q is a w:=λa w=>di h2;simp[wpList]at hw;split;.rename_i hwt;rw[an hwt]at hw;exact hw.imp (JB ih) id
   rename_i hwt;rw[ac hwt]at hw;exact ih _ _ hw
  cases h
def ar:∀(n:Nat) (l:List Nat),l.Nodup->(∀x∈l,x<n)->l.length<=n
 |0,l,_,h=>by
  cases l with
  |nil=>simp
  |cons x l=>exact Gr (h x (by simp)) (by omega)
 |n+1,l,hn,h=>by
  by_cases hm:n∈l
  .have:=ar n (l.erase n) (hn.erase n) λx hx=>by
    have h1:=h x (Ms hx)
    have h2:x≠n:=λe=>by subst e;exact(List.Nodup.not_mem_erase hn) hx
    omega
   rw[Jo hm]at this
   omega
  .have:=ar n l hn λx hx=>by
    have h1:=h x hx
    have h2:x≠n:=λe=>by subst e;exact hm hx
    omega
   omega
def th(Fs Cs Ts:List Nat)(G0:List Qj){KK:Env->Hp->List Qj->Prop}(hL:Sub L0 (L++G0))(hm:c.P.follows .mixedOrders=true)(hB:aQ l.toArray Fs Cs Ts=true)
  (hK:∀E R G,KK E R G->TK c l.toArray Q R Ts (L++G) E)
  (h:FJ c l.toArray R L (λE'=>XJ c l.toArray L KK Cs E' R G0) Fs E):CJ c (.region id l.toArray true) Q E R L0:=by
 intro a w hf hs0;have hs:=hs0.sub hL;refine wp_region_any hm (y7 (Q:=Q) (R:=R) (L:=L) hB _ _ _ _ ?_);have hB':=hB;simp only[aQ,G6,Hm,HX,HZ,HR]at hB';obtain⟨⟨⟨⟨⟨⟨⟨⟨⟨⟨⟨⟨⟨⟨⟨hlow,hcover⟩,hFn⟩,hCn⟩,hTn⟩,hself⟩,hF⟩,hC⟩,hT⟩,hpair⟩,hrow⟩,hFs⟩,hCs⟩,hFC⟩,hFT⟩,hCT⟩:=hB';have key:∀(Fs:List Nat) (a:Act) (E:Env),(∀i∈Fs,Ym l.toArray i i=false)->(∀i∈Fs,zU l.toArray i=true)->aO l.toArray Fs=true->Fr c.n E a->
   FJ c l.toArray R L (λE'=>XJ c l.toArray L KK Cs E' R G0) Fs E->
   ∃(pend:List (Nat×Value)) (E':Env),pend.map (·.1)=Fs/\Fr c.n E' (Yd l.toArray a pend)/\(∀x∈pend,QK c l.toArray R L x (Yd l.toArray a pend))/\XJ c l.toArray L KK Cs E' R G0:=by
  intro Fs
  induction Fs with
  |nil=>intro a E _ _ _ hf h;exact⟨[],E,rfl,hf,λx hx=>(by cases hx),h⟩
  |cons i is ih=>
   intro a E hself hsel hpair hf h
   obtain⟨v,E1,⟨o,d,ho,hd,hn,rfl,hspec⟩,hrest⟩:=h
   have hpair':=hpair
   simp only[aO,G6,Hm,HX,HZ]at hpair'
   have hda:XZ l.toArray i=some d:=by unfold XZ;rw[ho];exact hd
   obtain⟨pend,E',e1,e2,e3,e4⟩:=ih (a.put (some d) v) _ (λj hj=>hself j (by simp[hj])) (λj hj=>hsel j (by simp[hj])) hpair'.2 (hf.put hn v) hrest
   have hmem:∀y∈pend,y.1∈is:=λy hy=>by rw[<-e1];exact Gu.2 ⟨y,hy,rfl⟩
   have hvt:Yd l.toArray a ((i,v)::pend)=Yd l.toArray (a.put (some d) v) pend:=by
    have:=ja (ops:=l.toArray) (x:=(i,v)) [] pend a λy hy e he=>by
     exact yY (by
      have:=hmem y hy
      rw[<-e1]at this
      obtain⟨z,hz,hze⟩:=Gu.1 this
      obtain⟨o',ho',_⟩:=e3 z hz
      rw[<-hze]
      exact(G9.1 ho').1) (hpair'.1 y.1 (hmem y hy)).1.2 e he
    simpa[hda]using this
   refine⟨(i,v)::pend,E',by simp[e1],by rw[hvt];exact e2,λx hx=>?_,e4⟩
   rw[hvt]
   rcases Gn.1 hx with rfl|hx
   .have q0:QK c l.toArray R L (i,v) a:=⟨o,ho,zo ho (hsel i (by simp)),λR' hR G w hw=>by
     rcases hspec with⟨hw1,hy⟩|⟨hw1,hy⟩
     .exact .inl ⟨hw1 a hf,hy R' hR G a w hf hw⟩
     .exact .inr ⟨hw1 a hf,hy⟩⟩
    have q1:QK c l.toArray R L (i,v) (a.put (XZ l.toArray i) v):=QK.put (hself i (by simp)) q0
    rw[hda]at q1
    have:∀(p:List (Nat×Value)) (a:Act),(∀y∈p,Ym l.toArray i y.1=false)->QK c l.toArray R L (i,v) a->QK c l.toArray R L (i,v) (Yd l.toArray a p):=by
     intro p
     induction p with
     |nil=>intro a _ q;exact q
     |cons y p ihp=>intro a hp q;exact QK.put (hp y (by simp)) (ihp a (λz hz=>hp z (by simp[hz])) q)
    exact this pend _ (λy hy=>(hpair'.1 y.1 (hmem y hy)).1.1.1) q1
   .exact e3 x hx
 obtain⟨pend,E',e1,e2,e3,e4⟩:=key Fs a E hself hFs hpair hf h;have hmono:∀(cs:List Nat) (E:Env) (R:Hp) (G:List Qj),XJ c l.toArray L KK cs E R G->XJ c l.toArray L (λE R G=>TK c l.toArray Q R Ts (L++G) E) cs E R G:=by
  intro cs;induction cs with
  |nil=>intro E R G h;exact hK E R G h
  |cons i is ih=>
   intro E R G h;obtain⟨o,ho,hst⟩:=h;refine⟨o,ho,λa w ha hw=>?_⟩;have:=hst a w ha hw;split;.rename_i hwt;rw[an hwt]at this;exact JB (λa' w' ⟨u,E',R',G',hle,h1,h2,h3,h4⟩=>⟨u,E',R',G',hle,h1,h2,h3,ih _ _ _ h4⟩) this
   rename_i hwt;rw[ac hwt]at this;obtain⟨E',R',G',hle,h1,h2,h3⟩:=this;exact⟨E',R',G',hle,h1,h2,ih _ _ _ h3⟩
 have hrep:∀j,(Array.replicate l.toArray.size false).getD j false=false:=λj=>by
  rw[GL,Ka];split<;>rfl
 refine⟨by simp,λi o _ hl=>(by rw[hrep]at hl;cases hl),pend,Cs,E',R,G0,Hp.le_refl R,λx hx=>by rw[<-e1];exact Gu.2 ⟨x,hx,rfl⟩,by rw[e1];exact hFn,⟨[],rfl⟩,hmono _ _ _ _ e4,e2,hs.drew,e3,λj hj=>?_,?_⟩;.rw[hrep,e1];have:=hcover j (by simpa using hj);simp only[Ky]at this;rcases this with(h|h)|h<;>simp[h]
 have hc:(Fs++Cs++Ts).length<=l.toArray.size:=by
  have hnd:(Fs++Cs++Ts).Nodup:=by
   rw[Hb];refine⟨Hb.2 ⟨hFn,hCn,λu hu v hv he=>?_⟩,hTn,λu hu v hv he=>?_⟩;.subst he;have:=(hF u hu).1.2;simp[hv]at this
   subst he;rcases GE.1 hu with h|h
   .have:=(hF u h).2;simp[hv]at this
   have:=(hC u h).2;simp[hv]at this
  have hlt:∀x∈Fs++Cs++Ts,x∈List.range l.toArray.size:=by
   intro x hx;rw[KE];simp only[GE]at hx;rcases hx with(h|h)|h
   .exact Hw (HM _) (Gz (hF x h).1.1)
   .exact Hw (HM _) (Gz (hC x h).1)
   exact Hw (HM _) (Gz (hT x h))
  exact ar _ _ hnd λx hx=>by simpa using hlt x hx
 have hl:pend.length=Fs.length:=by rw[<-e1];simp
 simp at hc;simp;omega
def ti(Fs Cs Ts:List Nat)(G0:List Qj)(hL:Sub L0 (L++G0))(hm:c.P.follows .mixedOrders=true)(hB:aQ l.toArray Fs Cs Ts=true)(hr:zw l.toArray Ts=true)(ht:cX l Ts=some tl)
  (h:FJ c l.toArray R L (λE'=>XJ c l.toArray L (λE R G=>RJ c l.toArray Q tl E R (L++G)) Cs E' R G0) Fs E):CJ c (.region id l.toArray true) Q E R L0:=by
 have hB':=hB;simp only[aQ,G6,Hm,HX,HZ,HR]at hB';let⟨⟨⟨⟨⟨⟨⟨⟨⟨⟨⟨⟨⟨⟨⟨hlow,hcover⟩,hFn⟩,hCn⟩,hTn⟩,hself⟩,hF⟩,hC⟩,hT⟩,hpair⟩,hrow⟩,hFs⟩,hCs⟩,hFC⟩,hFT⟩,hCT⟩:=hB';refine th (KK:=λE R G=>RJ c l.toArray Q tl E R (L++G)) Fs Cs Ts G0 hL hm hB (λE R G h fuel listed a w hs hc hl hn hf hsat=>?_) h;exact lx hlow Ts fuel listed a w hr hTn (λj hj=>Hw (HM _) (Gz (hT j hj))) hs hc hl hn (di ht (h a w hf hsat))
def d9(Fs Cs Ts:List Nat)(hm:c.P.follows .mixedOrders=true)(hB:aQ l.toArray Fs Cs Ts=true)(hr:zw l.toArray Ts=true)(ht:cX l Ts=some tl)
  (h:FJ c l.toArray R L (λE'=>XJ c l.toArray L (λE R G=>RJ c l.toArray Q tl E R (L++G)) Cs E' R []) Fs E):CJ c (.region id l.toArray true) Q E R L:=
 ti Fs Cs Ts [] (by rw[HY];exact .refl _) hm hB hr ht h
def Find.app{L:List Qj}(f:Find A L M)(X:List Qj):Find A (L++X) (M++X):=by
 induction f with
 |head L=>exact .head _
 |tail _ ih=>exact .tail ih
def Split.app{L pre F:List Qj}(s:Split L pre F)(X:List Qj):Split (L++X) pre (F++X):=by
 induction s with
 |nil L=>exact .nil _
 |cons f _ ih=>exact .cons (f.app X) ih
def Find.mid(A:Qj):∀(M L:List Qj),Find A (M++A::L) (M++L)
 |[],L=>.head _
 |B::M,L=>.tail (Find.mid A M L)
def kJ(ho:zY l i=some o)(hd:o.dst=some d)(hn:Nat.blt d c.n=true)(hw:Wn c l.toArray E o true)(y:∀R',R.le R'->∀G,Yld c E R' (L++G) o v)
  (h:FJ c l.toArray R L K is ((d,v)::E)):FJ c l.toArray R L K (i::is) E:=
 ⟨v,_,⟨o,d,by rw[jR]at ho;simpa using ho,hd,hn,rfl,.inl ⟨hw,y⟩⟩,h⟩
def sP(ho:zY l i=some o)(hd:o.dst=some d)(hn:Nat.blt d c.n=true)(hw:Wn c l.toArray E o false)
  (h:FJ c l.toArray R L K is ((d,undef)::E)):FJ c l.toArray R L K (i::is) E:=
 ⟨undef,_,⟨o,d,by rw[jR]at ho;simpa using ho,hd,hn,rfl,.inr ⟨hw,rfl⟩⟩,h⟩
def Xq(h:K E):FJ c l.toArray R L K [] E:=h
def CU(t:Nat){b:Bool}(e:lk E t=some (.bool b))(ht:b=true->FJ c l.toArray R L K is E)(hf:b=false->FJ c l.toArray R L K is E):FJ c l.toArray R L K is E:=by
 cases b with
 |true=>exact ht rfl
 |false=>exact hf rfl
def Xt{ops:Array Oper}{K:Env->Hp->List Qj->Prop}(h:K E R G):XJ c ops L K [] E R G:=h
end
def QN(e:TypeId)(sz:Nat)(v:Value)(n:Nat)(xs:List Value):Qj:=λh=>xs.length=n*sz/\
 ((v=.slice none 0 0/\n=0)\/∃g cap fz pre post,v=.slice (some ⟨g,List.length pre,none⟩) n cap/\h g=some (.cells ⟨pre++(xs++post)⟩ e fz)/\(∀o,o<(pre++(xs++post)).length->¬(fz.1<=o/\o<fz.2))/\
   n<=cap/\cap<=maxLen/\cap*sz<=(xs++post).length)
def Yr(e:TypeId)(sz:Nat)(h:Hp):QN e sz (.slice none 0 0) 0 [] h:=⟨by simp,.inl ⟨rfl,rfl⟩⟩
def Sat.add(hA:∀h,A h)(s:Sat σ R L w):Sat σ R (A::L) w:=
 ⟨s.os,s.tape,s.output,s.ro,let⟨g,a,b,c⟩:=s.own;⟨g,a,b,Hp.emp,g,λ_ _ h=>(by cases h),Hp.le_refl g,λ_=>.inl rfl,hA _,c⟩⟩
def Sat.pure(hA:∀h,A h->p)(s:Sat σ R (A::L) w):p:=
 let⟨g,a,b,h1,h2,c⟩:=s.own;hA _ c.2.2.2.1
section
variable{c:Cx}{ops:Array Oper}{Q:Exit->Act->World->Prop}{E:Env}{R:Hp}{L M:List Qj}{A B:Qj}
def gP{l:List Oper}(f:Find A L M)(hA:∀h,A h->p)(h:p->RJ c ops Q l E R L):RJ c ops Q l E R L:=
 λa w ha hs=>h (Sat.pure hA (hs.find f)) a w ha hs
def qh{x:Code}(f:Find A L M)(hA:∀h,A h->p)(h:p->CJ c x Q E R L):CJ c x Q E R L:=
 λa w ha hs=>h (Sat.pure hA (hs.find f)) a w ha hs
def XM{l:List Oper}(f:Find A L M)(k:∀h,A h->B h)(h:RJ c ops Q l E R (B::M)):RJ c ops Q l E R L:=
 λa w ha hs=>h a w ha ((hs.find f).turn k)
def Zb{l:List Oper}(hA:∀h,A h)(h:RJ c ops Q l E R (A::L)):RJ c ops Q l E R L:=λa w ha hs=>h a w ha (hs.add hA)
def pZ{x:Code}(hA:∀h,A h)(h:CJ c x Q E R (A::L)):CJ c x Q E R L:=λa w ha hs=>h a w ha (hs.add hA)
def Sat.split{As:List Qj}(k:∀h,A h->stars As h)(s:Sat σ R (A::L) w):Sat σ R (As++L) w:=by
 let⟨g,a,b,h1,h2,c1,c2,c3,c4,c5⟩:=s.own;refine⟨s.os,s.tape,s.output,s.ro,g,a,b,?_⟩;have key:∀(As:List Qj) (h1:Hp),h1.le g->h1.dis h2->stars As h1->stars (As++L) g:=by
  intro As;induction As with
  |nil=>intro h1 _ _ _;exact iC c2 c5
  |cons B As ih=>
   rintro h1 l1 d1 ⟨k1,k2,e1,e2,e3,e4,e5⟩;have hd2:k2.dis h2:=Hp.dis_symm (Hp.dis_le (Hp.dis_symm d1) e2);have hd1:k1.dis h2:=Hp.dis_symm (Hp.dis_le (Hp.dis_symm d1) e1);have key2:∀(As:List Qj) (k2:Hp),k2.dis h2->stars As k2->stars (As++L) (k2.un h2):=by
    intro As;induction As with
    |nil=>intro k2 hd _;exact iC (Hp.le_un_right hd) c5
    |cons C As ih2=>
     rintro k2 hd ⟨m1,m2,f1,f2,f3,f4,f5⟩;have hm2:m2.dis h2:=Hp.dis_symm (Hp.dis_le (Hp.dis_symm hd) f2);have hm1:m1.dis h2:=Hp.dis_symm (Hp.dis_le (Hp.dis_symm hd) f1);exact⟨m1,m2.un h2,Hp.le_trans f1 (Hp.le_un_left _ _),Hp.un_le (Hp.le_trans f2 (Hp.le_un_left _ _)) (Hp.le_un_right hd),Hp.dis_un f3 hm1,f4,ih2 m2 hm2 f5⟩
   exact⟨k1,k2.un h2,Hp.le_trans e1 l1,Hp.un_le (Hp.le_trans e2 l1) c2,Hp.dis_un e3 hd1,e4,key2 As k2 hd2 e5⟩
 exact key As h1 c1 c3 (k _ c4)
def Sat.join:∀{As:List Qj} (k:∀h,stars As h->A h),Sat σ R (As++L) w->Sat σ R (A::L) w:=by
 intro As k s;let⟨g,a,b,c1⟩:=s.own;refine⟨s.os,s.tape,s.output,s.ro,g,a,b,?_⟩;have key:∀(As:List Qj) (g:Hp),stars (As++L) g->∃h1 h2:Hp,h1.le g/\h2.le g/\h1.dis h2/\stars As h1/\stars L h2:=by
  intro As;induction As with
  |nil=>intro g s;exact⟨Hp.emp,g,λ_ _ h=>(by cases h),Hp.le_refl g,λ_=>.inl rfl,trivial,s⟩
  |cons B As ih=>
   rintro g ⟨k1,k2,e1,e2,e3,e4,e5⟩;let⟨m1,m2,f1,f2,f3,f4,f5⟩:=ih k2 e5;have d1:k1.dis m1:=Hp.dis_le e3 f1;have d2:k1.dis m2:=Hp.dis_le e3 f2;exact⟨k1.un m1,m2,Hp.un_le e1 (Hp.le_trans f1 e2),Hp.le_trans f2 e2,Hp.dis_symm (Hp.dis_un (Hp.dis_symm d2) (Hp.dis_symm f3)),⟨k1,m1,Hp.le_un_left _ _,Hp.le_un_right d1,d1,e4,f4⟩,f5⟩
 let⟨h1,h2,d1,d2,d3,d4,d5⟩:=key As g c1;exact⟨h1,h2,d1,d2,d3,k _ d4,d5⟩
end
def zQ{g:Nat}{e:TypeId}{fz:Nat×Nat}:∀(vs:List Value) (pre post:List Value) (w:World),w.heap[g]?=some (.cells ⟨pre++post⟩ e fz)->vs.length<=post.length->
  (w.setCells g pre.length vs).heap[g]?=some (.cells ⟨pre++(vs++post.drop vs.length)⟩ e fz)
 |[],pre,post,w,hg,_=>by simpa[World.setCells]using hg
 |v::vs,pre,[],w,hg,hl=>by simp at hl
 |v::vs,pre,u::post,w,hg,hl=>by
  have hg':(w.setCell ⟨g,pre.length,none⟩ v).heap[g]?=some (.cells ⟨(pre++[v])++post⟩ e fz):=by
   simp only[World.setCell,Jb,hg]
   simp
  have:=zQ vs (pre++[v]) post _ hg' (by simpa using hl)
  simp only[Gm,GD,Lv]at this
  simp only[World.setCells,GD,MH]
  rw[this]
  simp
def zn{g:Nat}:∀(vs:List Value) (o:Nat) (w:World) (k:Nat),k≠g->(w.setCells g o vs).heap[k]?=w.heap[k]?
 |[],_,_,_,_=>rfl
 |v::vs,o,w,k,hk=>by rw[World.setCells,zn vs _ _ k hk];exact M7 _ _ _ _ hk
def zO{g:Nat}:∀(vs:List Value) (o:Nat) (w:World),(w.setCells g o vs).os=w.os/\(w.setCells g o vs).tape=w.tape/\(w.setCells g o vs).output=w.output
 |[],_,_=>⟨rfl,rfl,rfl⟩
 |v::vs,o,w=>zO vs (o+1) _
def row_cell{g:Nat}{pre post:List Value}{e:TypeId}(hg:w.heap[g]?=some (.cells ⟨pre++(xs++post)⟩ e fz))(h:xs[j]?=some u):w.cell? ⟨g,pre.length+j,none⟩=some u:=by
 have hlt:=(Gj.1 h).1;simp only[World.cell?,hg];simp;rw[GY (by omega),Jv,GG hlt,h]
def Sat.slc_cases{e:TypeId}(s:Sat σ R (QN e sz v n xs::L) w):
  xs.length=n*sz/\((v=.slice none 0 0/\n=0/\xs=[])\/∃g cap fz pre post,v=.slice (some ⟨g,List.length pre,none⟩) n cap/\(∀o,o<(pre++(xs++post)).length->¬(fz.1<=o/\o<fz.2))/\
  n<=cap/\cap<=maxLen/\cap*sz<=(xs++post).length/\Sat σ R ((λh=>h g=some (.cells ⟨pre++(xs++post)⟩ e fz))::L) w):=by
 let⟨g,a,b,h1,h2,c1,c2,c3,c4,c5⟩:=s.own;let⟨hl,h⟩:=c4;refine⟨hl,?_⟩;rcases h with⟨hv,hn⟩|⟨g',cap,fz,pre,post,k1,k2,k3,k4,k5,k6⟩
 .subst hn;exact .inl ⟨hv,rfl,by simpa using hl⟩
 exact .inr ⟨g',cap,fz,pre,post,k1,k3,k4,k5,k6,s.os,s.tape,s.output,s.ro,g,a,b,h1,h2,c1,c2,c3,k2,c5⟩
def ZR{g:Nat}{o:Obj}(s:Sat σ R ((λh=>h g=some o)::L) w):w.heap[g]?=some o:=by
 let⟨q,a,_,h1,h2,c⟩:=s.own;exact a _ _ (c.1 _ _ c.2.2.2.1)
def ZL(v:Value):Prop:=∀b off n k,v=.slice (some ⟨b,off,none⟩) n k->off=0
def uA:ZL (.slice none 0 0):=λ_ _ _ _ h=>by cases h
def kG(b n k:Nat):ZL (.slice (some ⟨b,0,none⟩) n k):=λ_ _ _ _ h=>by cases h;rfl
structure AppT (P:Program) (t e:TypeId) (sz by_:Nat):Prop where
 under:P.underlying t=some (.slice e)
 info:∃(i:TypeInfo) (z:Value),P.info? e=some i/\i.zero=some z/\i.size=sz/\i.bytes=by_/\z.cells.size=sz
theorem tX{t tx ty e:TypeId}(hT:AppT P t e sz by_){x:Value}(hs:Sat σ R (QN e sz v n xs::L) w)
  (hsrc:Src P sz tx x m news w) (hbd:(n+m)*by_<=140737488355328) (hmx:n+m<=maxLen):
  ∃v' w',(Builtin.append_ #[t,tx] ty #[v,x]).run P w=.ok v' w'/\Sat σ R (QN e sz v' (n+m) (xs++news)::L) w'/\(ZL v->ZL v'):=by
 obtain⟨ht,i,z,hi,hz,rfl,rfl,hzs⟩:=hT;obtain⟨hxl,hc⟩:=hs.slc_cases;have hl:=hsrc.newsLen;have hlx:(xs++news).length=(n+m)*i.size:=by rw[Gm,hxl,hl,G4]
 have hmx':((n+m:Nat):Int)<=9223372036854775807:=by simp[maxLen]at hmx;omega
 have grown:∀old,Sat σ R (QN e i.size (.slice (some ⟨w.heap.size,0,none⟩) (n+m) (grownCap w (n+m) old e)) (n+m) (xs++news)::L)
   (w.drew.alloc (.cells ((xs++news).toArray++Builtin.zeroCells z.cells (grownCap w (n+m) old e-(n+m))) e)):=by
  intro old
  have hs2:Sat σ R L w:=hs.sub (.drop (.refl _))
  refine Sat.turn (λh hh=>?_) (hs2.drew.alloc _)
  have hge:=grownCap_ge w (n+m) old e
  refine⟨hlx,.inr ⟨w.heap.size,_,(0,0),[],(Builtin.zeroCells z.cells (grownCap w (n+m) old e-(n+m))).toList,rfl,?_,λo _ h=>by simp at h,hge,grownCap_le_maxLen w _ _ _ hmx,?_⟩⟩
  .rw[show w.drew.heap.size=w.heap.size from rfl]at hh
   rw[hh]
   congr 2
   apply J6
   simp
  .rw[Gm,hlx,KN,size_zeroCells,hzs,<-G4]
   exact Nat.le_of_eq (by congr 1;omega)
 rcases hc with⟨rfl,rfl,rfl⟩|⟨g,cap,fz,pre,post,rfl,hf,hnc,hcm,hcs,hsg⟩
 .
  rcases Js m with rfl|hm
  .have hnews:news=[]:=by simpa using hl
   subst hnews
   refine⟨.slice none 0 0,w,?_,hs,id⟩
   have hc:=hsrc.cells
   rcases hsrc.kind with⟨e',hk⟩|hk<;>simp[Builtin.append_,run_underlying ht,run_underlying hk,sizeOf,typeInfo,hi,hsrc.len,hc]
  .refine⟨_,_,run_append_grow_src w t tx ty e i z ht hi hz none 0 0 [] (run_firstCells_none _ _ _ _ _) x m news hsrc (by omega) (by simpa using hmx') ?_,by simpa using grown 0,λ_=>kG _ _ _⟩
   exact growslice_fits (by omega) (by simpa using hbd)
 have hg:=ZR hsg;rcases HK cap (n+m)with hlt|hroom
 .refine⟨_,_,run_append_grow_src w t tx ty e i z ht hi hz _ n cap xs ?_ x m news hsrc hlt hmx' (growslice_fits hlt hbd),grown cap,λ_=>kG _ _ _⟩;exact run_firstCells_some w.drew i.size n _ n cap xs hxl (λj u hj=>by rw[YH];exact row_cell hg hj)
 have hms:m*i.size<=post.length:=by
  have h1:(n+m)*i.size<=cap*i.size:=Hv _ hroom;rw[G4]at h1;rw[Gm]at hcs;omega
 have hpx:pre.length+n*i.size=(pre++xs).length:=by rw[Gm,hxl]
 have hg2:w.heap[g]?=some (.cells ⟨(pre++xs)++post⟩ e fz):=by rw[hg];simp
 refine⟨_,_,run_append_room_src w t tx ty e i ht hi g pre.length n cap x m news hsrc hroom (λj hj=>?_) (λj hj=>?_),?_,λh b off n k e=>?_⟩
 .have hj':pre.length+n*i.size+j<((pre++xs)++post).length:=by rw[Gm,<-hpx];omega
  simp[World.cell?,hg2];simp at hj'|-;omega
 .have hj':pre.length+n*i.size+j<(pre++(xs++post)).length:=by rw[<-GA,Gm,<-hpx];omega
  have:=hf _ hj';obtain⟨lo,hi'⟩:=fz;simp[World.frozen?,hg];omega
 .have hg3:=zQ news (pre++xs) post w hg2 (by omega);rw[<-hpx]at hg3;obtain⟨o1,o2,o3⟩:=zO (g:=g) news (pre.length+n*i.size) w;have hsat:=Sat.put (o':=.cells ⟨pre++xs++(news++List.drop news.length post)⟩ e fz) hsg o1 o2 o3 (λk hk _=>zn news _ w k hk) hg3;refine Sat.turn (λh hh=>?_) hsat;refine⟨hlx,.inr ⟨g,cap,fz,pre,post.drop news.length,rfl,by rw[hh];simp,?_,hroom,hcm,?_⟩⟩;.intro o ho;refine hf o ?_;simp[Gm,Hh]at ho|-;omega
  simp[Gm,Hh]at hcs|-;omega
 cases e;exact h _ _ _ _ rfl
def qj(v:Value)(j:Nat):Value:=match v with| .slice (some a) _ _=>.pointer (some (a.add j))|_=>.pointer none
def dv(v:Value)(l h sz:Nat):Value:=match v with| .slice q _ k=>.slice (Ze q l k sz) (h-l) (k-l)|_=>v
def XU(l:List UInt8):List Value:=l.map λb=>.int .u8 (b.toNat:Int)
def qQ(l:List UInt8):(XU l).length=l.length:=by simp[XU]
def fm(l m:List UInt8):XU l++XU m=XU (l++m):=by simp[XU]
def nk(l:List UInt8):byteCells (Qs l)=XU l:=by simp[byteCells,XU]
def rL(l:List UInt8)(n:Nat):(XU l).take n=XU (l.take n):=by simp[XU,List.map_take]
def BY{e:TypeId}(h:Hp)(hs:QN e sz v n xs h):xs.length=n*sz:=hs.1
def ZF{e:TypeId}(h:Hp)(hs:QN e sz v n xs h):∃q k,v=.slice q n k/\n<=k/\k<=maxLen/\(0<n->∃b off,q=some ⟨b,off,none⟩):=by
 rcases hs.2 with⟨hv,hn⟩|⟨g,cap,fz,pre,post,hv,_,_,h1,h2,_⟩;.subst hn;exact⟨none,0,hv,by omega,by simp[maxLen],λh=>by omega⟩
 exact⟨_,_,hv,h1,h2,λ_=>⟨_,_,rfl⟩⟩
def zl{e:TypeId}(h:Hp)(hs:QN e sz v n xs h):v.oneCell'=true:=by
 obtain⟨q,k,rfl,_⟩:=ZF h hs;rfl
def Aq{l:Nat}(hv:v.oneCell'=true):(dv v l h sz).oneCell'=true:=by
 unfold dv;split;.rfl
 exact hv
def BZ{e:TypeId}{l:Nat}(hlk:l<=k)(hkn:k<=n)(h:Hp)(hs:QN e sz v n xs h):QN e sz (dv v l k sz) (k-l) ((xs.drop (l*sz)).take ((k-l)*sz)) h:=by
 let⟨hl,hs⟩:=hs;have hmul2:k*sz<=n*sz:=Hv _ (by omega);have hmul3:(k-l)*sz=k*sz-l*sz:=Nat.sub_mul _ _ _;have hmul4:l*sz<=k*sz:=Hv _ hlk;refine⟨by rw[GX,Hh,hl];omega,?_⟩;rcases hs with⟨rfl,rfl⟩|⟨g,cap,fz,pre,post,rfl,h1,h2,h3,h4,h5⟩
 .obtain rfl:l=0:=by omega
  obtain rfl:k=0:=by omega
  exact .inl ⟨rfl,rfl⟩
 have hx:xs=xs.take (l*sz)++((xs.drop (l*sz)).take ((k-l)*sz)++(xs.drop (l*sz)).drop ((k-l)*sz)):=by rw[HG,HG]
 have hlen:(xs.take (l*sz)).length=l*sz:=by rw[GX];omega
 have e1:pre++(xs++post)=(pre++xs.take (l*sz))++((xs.drop (l*sz)).take ((k-l)*sz)++((xs.drop (l*sz)).drop ((k-l)*sz)++post)):=by
  simp only[GA,HG];rw[<-GA (xs.drop (l*sz)|>.take _),HG,<-GA (xs.take _),HG]
 rcases HK l cap with hlc|hlc
 .refine .inr ⟨g,cap-l,fz,pre++xs.take (l*sz),(xs.drop (l*sz)).drop ((k-l)*sz)++post,?_,by rw[h1,e1],by rw[<-e1];exact h2,by omega,by omega,?_⟩
  .have:¬cap=l:=by omega
   simp only[dv,Ze,ac this,JP,YH,Gm,hlen]
  rw[<-GA,HG,Gm,Hh,hl];rw[Gm,hl]at h5;have:(cap-l)*sz=cap*sz-l*sz:=Nat.sub_mul _ _ _;omega
 obtain rfl:cap=l:=by omega
 obtain rfl:k=cap:=by omega
 refine .inr ⟨g,0,fz,pre,xs++post,?_,?_,?_,by omega,by simp[maxLen],by simp⟩;.simp only[dv,Ze,if_true,Nat.sub_self]
 .simpa using h1
 simpa using h2
def BX{e:TypeId}(hk:k<=n)(h:Hp)(hs:QN e 1 v n (XU bs) h):QN e 1 (dv v 0 k 1) (bs.take k).length (XU (bs.take k)) h:=by
 have hl:=hs.1;rw[qQ,Nat.mul_one]at hl;have:=BZ (He k) hk h hs;have e1:(bs.take k).length=k:=by rw[GX];omega
 rw[e1,<-rL];simpa using this
def jc{e:TypeId}(hj:ZO xs j=some u)(s:Sat σ R (QN e sz v n xs::L) w):
  ∃b off,qj v j=.pointer (some ⟨b,off,none⟩)/\w.cell? ⟨b,off,none⟩=some u:=by
 let⟨hl,h⟩:=s.slc_cases;rw[qr]at hj;rcases h with⟨rfl,rfl,rfl⟩|⟨g,cap,fz,pre,post,rfl,_,_,_,_,hs⟩
 .simp at hj
 exact⟨g,pre.length+j,by simp[qj,YH],row_cell (ZR hs) hj⟩
def jJ{e:TypeId}(hn:0<n)(s:Sat σ R (QN e sz v n xs::L) w):
  ∃b off cap,v=.slice (some ⟨b,off,none⟩) n cap/\∀j,qj v j=.pointer (some ⟨b,off+j,none⟩):=by
 let⟨hl,h⟩:=s.slc_cases;rcases h with⟨rfl,rfl,rfl⟩|⟨g,cap,fz,pre,post,rfl,_,_,_,_,hs⟩
 .omega
 exact⟨g,pre.length,cap,rfl,λj=>by simp[qj,YH]⟩
def Sat.slc_set{e:TypeId}(s:Sat σ R (QN e sz v n xs::L) w)(hj:j+vs.length<=xs.length)(hc:qj v j=.pointer (some ⟨b,off,none⟩)):
  Sat σ R (QN e sz v n (xs.take j++vs++xs.drop (j+vs.length))::L) (w.setCells b off vs)/\(∀i,i<vs.length->(w.cell? ⟨b,off+i,none⟩).isSome=true/\w.frozen? ⟨b,off+i,none⟩=false):=by
 obtain⟨hl,h⟩:=s.slc_cases;rcases h with⟨rfl,rfl,rfl⟩|⟨g,cap,fz,pre,post,rfl,h2,h3,h4,h5,hs⟩
 .simp[qj]at hc
 simp[qj,YH,KJ,Hi,KQ]at hc;obtain⟨rfl,rfl,-⟩:=hc;have hg:=ZR hs;have hlen:(pre++xs.take j).length=pre.length+j:=by rw[Gm,GX];omega
 have e1:pre++(xs++post)=(pre++xs.take j)++(xs.drop j++post):=by
  rw[GA,<-GA (xs.take j),HG]
 have hg2:=hg;rw[e1]at hg2;have hg3:=zQ vs (pre++xs.take j) (xs.drop j++post) w hg2 (by rw[Gm,Hh];omega);rw[hlen]at hg3;obtain⟨o1,o2,o3⟩:=zO (g:=g) vs (pre.length+j) w;have hsat:=Sat.put (o':=.cells ⟨pre++xs.take j++(vs++(xs.drop j++post).drop vs.length)⟩ e fz) hs o1 o2 o3 (λk hk _=>zn vs _ w k hk) hg3;have e2:(xs.drop j++post).drop vs.length=xs.drop (j+vs.length)++post:=by
  rw[H5 (by rw[Hh];omega),HL]
 have hxl:(xs.take j++vs++xs.drop (j+vs.length)).length=xs.length:=by simp[Gm,GX,Hh];omega
 refine⟨Sat.turn (λh hh=>⟨by rw[hxl];exact hl,.inr ⟨g,cap,fz,pre,post,rfl,?_,?_,h3,h4,?_⟩⟩) hsat,λi hi=>⟨?_,?_⟩⟩;.rw[hh,e2];simp
 .intro o ho;refine h2 o ?_;simp[Gm]at ho hxl|-;omega
 .rw[Gm,hxl,<-Gm];exact h5
 .have hj':pre.length+j+i<(pre++(xs++post)).length:=by simp[Gm];omega
  simp[World.cell?,hg];simp at hj'|-;omega
 have hj':pre.length+j+i<(pre++(xs++post)).length:=by simp[Gm];omega
 have:=h2 _ hj';obtain⟨lo,hi'⟩:=fz;simp[World.frozen?,hg];omega
section
variable{c:Cx}{ops:Array Oper}{Q:Exit->Act->World->Prop}{E:Env}{R:Hp}{L M:List Qj}{rest:List Oper}{d:Option Tmp}{ty:TypeId}{p:String}{af:Array Edge}{g:Option (Nat×Bool)}
def fq(c:Cx)(R:Hp)(L:List Qj)(tx:TypeId)(sz:Nat)(x:Value)(m:Nat)(news:List Value):Prop:=∀w,Sat c.σ R L w->Src c.P sz tx x m news w
def r9{tx:TypeId}{s:List UInt8}(hk:c.P.underlying tx=some .string):fq c R L tx 1 (.string (Qs s)) s.length (XU s):=λw _=>by
 have:=Src.ofString w hk (Qs s);rwa [nk,ZA]at this
def XL{tx e' e:TypeId}(hk:c.P.underlying tx=some (.slice e'))(f:Find (QN e sz v n xs) L M)(h1:∀u∈xs,u.oneCell'=true):fq c R L tx sz v n xs:=λw hs=>by
 let⟨hl,h⟩:=(hs.find f).slc_cases;rcases h with⟨rfl,rfl,rfl⟩|⟨g,cap,fz,pre,post,rfl,_,_,_,_,hs⟩
 .exact Src.ofNil w hk 0
 exact KC w hk _ _ _ _ hl (λj u hj=>by rw[YH];exact row_cell (ZR hs) hj) h1
def DG{tx e':TypeId}(hk:c.P.underlying tx=some (.slice e'))(hc:∀(j:Nat) u,xs[j]?=some u->Hp.cell R ⟨b,off+j,none⟩=some u)(hl:xs.length=n*sz)(h1:∀u∈xs,u.oneCell'=true):fq c R L tx sz (.slice (some ⟨b,off,none⟩) n k) n xs:=λw hs=>
 KC w hk _ _ _ _ hl (λj u hj=>by rw[YH];exact hs.ro_cell (hc j u hj)) h1
def QZ{d:Nat}{t tx e:TypeId}(hT:AppT c.P t e sz by_)
  (hw:Wn c ops E ⟨some d,.call {callee:=.builtin .append,args:= #[x,y],argTypes:= #[t,tx]},ty,p,af,g⟩ true) (hn:Nat.blt d c.n=true)
  (e1:ev E x=some v) (e2:ev E y=some u) (f:Find (QN e sz v n xs) L M) (hsrc:fq c R L tx sz u m news) (hys:xs++news=ys) (hbd:(n+m)*by_<=140737488355328) (hmx:n+m<=maxLen)
  (h:∀v',v'.oneCell'=true->(ZL v->ZL v')->RJ c ops Q rest ((d,v')::E) R (QN e sz v' (n+m) ys::M)):RJ c ops Q (⟨some d,.call {callee:=.builtin .append,args:= #[x,y],argTypes:= #[t,tx]},ty,p,af,g⟩::rest) E R L:=by
 intro a w hf hs;unfold wpList;rw[an (hw a hf)];refine .inl ?_;let⟨v',w',h1,h2,h3⟩:=tX (ty:=ty) hT (hs.find f) (hsrc w hs) hbd hmx;unfold Oper.wp;have r:(execOp a.eval ⟨some d,.call {callee:=.builtin .append,args:= #[x,y],argTypes:= #[t,tx]},ty,p,af,g⟩).run c.P w=.ok (.value v') w':=by
  simp[execOp,resolve,invoke,builtin,hf.ev e1,hf.ev e2,h1]
 rw[r];exact h v' (Sat.pure zl h2) h3 _ _ (hf.put hn v') (hys▸h2)
def Zf{t e e':TypeId}(hT:c.P.underlying t=some (.slice e))(e1:ev E x=some v:=by exact rfl)(f:Find (QN e' sz v n xs) L M:=by(repeat(first|exact zH _|apply zT));done):
  Yld c E R L ⟨d,.call {callee:=.builtin .len,args:= #[x],argTypes:= #[t]},ty,p,af,g⟩ (.int .i64 n):=λa w hf hs=>by
 obtain⟨q,k,rfl,_⟩:=Sat.pure ZF (hs.find f);exact QV hT e1 a w hf hs
def rj{lo hi:Option Operand}{t e e':TypeId}{l:Nat}(hT:c.P.underlying t=some (.slice e))(hS:∀w,(sizeOf e).run c.P w=.ok sz w)(e1:ev E x=some v)(f:Find (QN e' sz v n xs) L M)
  (hl:match lo with|none=>l=0|some o=>∃ik,ev E o=some (.int ik (l:Int))) (hh:match hi with|none=>h=n|some o=>∃ik,ev E o=some (.int ik (h:Int))) (hb:l<=h/\h<=n):
  Yld c E R L ⟨d,.slice t x lo hi none,ty,p,af,g⟩ (dv v l h sz):=λa w hf hs=>by
 obtain⟨q,k,rfl,hnk,_⟩:=Sat.pure ZF (hs.find f);exact qu hT hS e1 hl hh ⟨hb.1,by omega⟩ a w hf hs
def Xn{t e e':TypeId}{ik:IntKind}{i:Int}(hT:c.P.underlying t=some (.slice e))(hS:∀w,(sizeOf e).run c.P w=.ok sz w)(e1:ev E x=some v:=by exact rfl)(e2:ev E y=some (.int ik i):=by exact rfl)
  (f:Find (QN e' sz v n xs) L M:=by(repeat(first|exact zH _|apply zT));done) (h:0<=i/\i<n:=by first|omega|(dsimp only;omega)|(simp;done)|(simp;omega)):Yld c E R L ⟨d,.indexAddr t x y,ty,p,af,g⟩ (qj v (i.toNat*sz)):=λa w hf hs=>by
 obtain⟨b,off,cap,rfl,hc⟩:=jJ (by omega) (hs.find f);rw[hc];exact QE hT hS e1 e2 h a w hf hs
def qR{s ft e':TypeId}{fi:Nat}{fs:Array Field}(hS:c.P.underlying s=some (.struct fs))(hF:gZ fs fi=some (ft,k))(hm:m≠0)(hZ:∀w,(sizeOf ft).run c.P w=.ok m w)
  (e:ev E x=some (qj v j)) (f:Find (QN e' sz v n xs) L M) (hn:0<n):Yld c E R L ⟨d,.fieldAddr s x fi,ty,p,af,g⟩ (qj v (j+k)):=λa w hf hs=>by
 obtain⟨b,off,cap,rfl,hc⟩:=jJ hn (hs.find f);rw[hc,<-HQ];exact ig hS hF hm hZ (e.trans (by rw[hc])) a w hf hs
def XC{t e':TypeId}(hT:ZZ c.P t)(e:ev E x=some (qj v j))(f:Find (QN e' sz v n xs) L M)(hu:ZO xs j=some u):Yld c E R L ⟨d,.load t x,ty,p,af,g⟩ u:=λa w hf hs=>by
 let⟨b,off,h1,h2⟩:=jc hu (hs.find f);rw[h1]at e;refine cL (L:=L) (R:=R) hT e (λw hs=>?_) a w hf hs;let⟨b',off',h1',h2'⟩:=jc hu (hs.find f);rw[h1]at h1';cases h1';exact h2'
def jZ{t e':TypeId}(hT:yz c.P t m)(e:ev E x=some (qj v j))(f:Find (QN e' sz v n xs) L M)(hv:(xs.drop j).take m=vs)(hm:vs.length=m)(hn:0<n):Yld c E R L ⟨d,.load t x,ty,p,af,g⟩ (.agg ⟨vs⟩):=λa w hf hs=>by
 obtain⟨b,off,cap,rfl,hc⟩:=jJ hn (hs.find f);rw[hc]at e;refine eh (L:=L) (R:=R) hT hm e (λw hs i u hi=>?_) a w hf hs;subst hv;rw[HS]at hi;split at hi;.rw[HF]at hi;obtain⟨b',off',h1',h2'⟩:=jc (j:=j+i) (by rw[qr];exact hi) (hs.find f);rw[hc]at h1';obtain⟨rfl,rfl,-⟩:=h1';rw[HQ];exact h2'
 cases hi
def qH{t e':TypeId}(hT:ZZ c.P t)(hw:Wn c ops E ⟨none,.store t x y,ty,p,af,g⟩ true)(e1:ev E x=some (qj v j))(e2:ev E y=some u)(hu:u.oneCell'=true)
  (f:Find (QN e' sz v n xs) L M) (hj:j<xs.length) (hys:yh xs j u=ys) (hn:0<n) (h:RJ c ops Q rest E R (QN e' sz v n ys::M)):RJ c ops Q (⟨none,.store t x y,ty,p,af,g⟩::rest) E R L:=by
 refine dM hw rfl (λa w hf hs=>?_) h;let⟨b,off,cap,hv,hc⟩:=jJ hn (hs.find f);have hset:=Sat.slc_set (vs:=[u]) (hs.find f) (j:=j) hj (hc j);let⟨hs2,hcell⟩:=hset;have hcell:=hcell 0 (by simp);simp[I7]at hcell;let⟨z,hz⟩:=Jm.1 hcell.1;have hcu:u.cells= #[u]:=by cases u<;>first|rfl|simp[Value.oneCell']at hu
 have hst:(store ⟨b,off+j,none⟩ u).run c.P w=.ok () (w.setCell ⟨b,off+j,none⟩ u):=by
  have hfz:=hcell.2;cases u<;>first|(simp[Value.oneCell']at hu;done)|simp[store,Sem.run,hz,hfz]
 have e1':=e1;rw[hc]at e1';have hye:xs.take j++[u]++xs.drop (j+[u].length)=ys:=by
  rw[<-hys,je];simp[GD,Lv,GA,List.singleton_append];rw[List.set_eq_take_append_cons_drop,an hj]
 rw[hye]at hs2;refine⟨_,?_,hs2⟩;simp[execOp,hf.ev e1',hf.ev e2,Instr.storeAt,Instr.sureAddr,storeVar,hT.2,hcu,storeCells,YH,hst,World.setCells]
def zZ{s t e e':TypeId}(hS:c.P.underlying s=some (.slice e))(hE:c.P.underlying e=some (.int .u8))(hT:c.P.underlying t=some .string)
  (e1:ev E x=some v) (f:Find (QN e' 1 v n (XU bs)) L M):Yld c E R L ⟨d,.convert s t x,ty,p,af,g⟩ (.string (Qs bs)):=λa w hf hs=>by
 obtain⟨hl,h⟩:=(hs.find f).slc_cases;rcases h with⟨rfl,rfl,h0⟩|⟨q,cap,fz,pre,post,rfl,_,_,_,_,hs2⟩
 .have:bs=[]:=by simpa[XU]using h0
  subst this;have r:=run_convert_bytes_nil (P:=c.P) w s e hS hE 0 0 t hT;have e0:(ByteArray.empty)=Qs []:=rfl;simp[execOp,hf.ev e1,r,Oper.quietUpon,e0]
 refine rp hS hE hT e1 (by rw[qQ]at hl;omega) (λw hs j u hj=>?_) a w hf hs;have hx:(XU bs)[j]?=some (.int .u8 (u.toNat:Int)):=by simp[XU,hj]
 obtain⟨b',off',h1',h2'⟩:=jc (by rw[qr];exact hx) (hs.find f);simp[qj,YH,KJ,Hi,KQ]at h1';obtain⟨rfl,rfl,-⟩:=h1';exact h2'
def xG{d:Nat}{s t e:TypeId}(hw:Wn c ops E ⟨some d,.convert s t x,ty,p,af,g⟩ true)(hn:Nat.blt d c.n=true)(hS:c.P.underlying s=some .string)(hT:c.P.underlying t=some (.slice e))(hE:c.P.underlying e=some (.int .u8))
  (e1:ev E x=some (.string (Qs bs))) (hm:bs.length<=maxLen) (h:∀v',v'.oneCell'=true->RJ c ops Q rest ((d,v')::E) R (QN e 1 v' bs.length (XU bs)::L)):RJ c ops Q (⟨some d,.convert s t x,ty,p,af,g⟩::rest) E R L:=by
 intro a w hf hs;unfold wpList;rw[an (hw a hf)];refine .inl ?_;unfold Oper.wp;have r:=run_bytes_of_string (P:=c.P) w s t e (Qs bs) hS hT hE;simp[execOp,hf.ev e1,Iq,r,Iv,IZ,Oper.upon];refine h _ rfl _ _ (hf.put hn _) ?_;refine Sat.turn (λh hh=>?_) (hs.drew.alloc (.cells (bytesRow (Qs bs) (grownCap w (Qs bs).size 0 e)) e ((bytesRow (Qs bs) (grownCap w (Qs bs).size 0 e)).size,(bytesRow (Qs bs) (grownCap w (Qs bs).size 0 e)).size+1)));have hge:=grownCap_ge w (Qs bs).size 0 e;have hle:=grownCap_le_maxLen w (Qs bs).size 0 e (by rw[ZA];exact hm);have hrow:bytesRow (Qs bs) (grownCap w (Qs bs).size 0 e)=⟨[]++(XU bs++List.replicate (grownCap w (Qs bs).size 0 e-(Qs bs).size) (Value.int .u8 0))⟩:=by
  apply J6;simp[bytesRow,XU]
 refine⟨by rw[qQ];omega,.inr ⟨w.heap.size,grownCap w (Qs bs).size 0 e,((bytesRow (Qs bs) (grownCap w (Qs bs).size 0 e)).size,(bytesRow (Qs bs) (grownCap w (Qs bs).size 0 e)).size+1),[],
  List.replicate (grownCap w (Qs bs).size 0 e-(Qs bs).size) (Value.int .u8 0),by rw[ZA];rfl,?_,λo ho=>?_,by rw[ZA]at hge;exact hge,hle,?_⟩⟩
 .rw[<-hrow];exact hh
 .have hsz:(bytesRow (Qs bs) (grownCap w (Qs bs).size 0 e)).size=([]++(XU bs++List.replicate (grownCap w (Qs bs).size 0 e-(Qs bs).size) (Value.int .u8 0))).length:=by rw[hrow];rfl
  omega
 rw[Gm,qQ,List.length_replicate,ZA];omega
def ee{k:IntKind}{m n:Int}(e1:ev E x=some (.int k m))(e2:ev E y=some (.int k n)):
  Yld c E R L ⟨d,.call {callee:=.builtin .max,args:= #[x,y],argTypes:=ts},ty,p,af,g⟩ (.int k (max m n)):=λ_ w hf _=>by
 have r:(Builtin.max_ ts ty #[.int k m,.int k n]).run c.P w=.ok (.int k (max m n)) w:=by
  simp[Builtin.max_,Builtin.max2];omega
 simp[execOp,resolve,invoke,builtin,hf.ev e1,hf.ev e2,r,Oper.quietUpon]
def gH{k:IntKind}{m n:Int}(e1:ev E x=some (.int k m))(e2:ev E y=some (.int k n)):
  Yld c E R L ⟨d,.call {callee:=.builtin .min,args:= #[x,y],argTypes:=ts},ty,p,af,g⟩ (.int k (min m n)):=λ_ w hf _=>by
 have r:(Builtin.min_ ts ty #[.int k m,.int k n]).run c.P w=.ok (.int k (min m n)) w:=by
  simp[Builtin.min_,Builtin.min2];omega
 simp[execOp,resolve,invoke,builtin,hf.ev e1,hf.ev e2,r,Oper.quietUpon]
end
def gh(Q:Exit->Act->World->Prop):Exit->Act->World->Prop
 | .normal,a,w=>Q .normal a w
 |_,_,_=>False
section
variable{c:Cx}{ops:Array Oper}{Q:Exit->Act->World->Prop}{R:Hp}{L:List Qj}
def cO:∀(fuel:Nat) (listed:Array Bool) (a:Act) (w:World) (P:Program),wpAny P .any ops (gh Q) fuel listed a w->wpAny P .any ops Q fuel listed a w
 |0,listed,a,w,P,h=>h
 |fuel+1,listed,a,w,P,h=>⟨h.1,λi hi=>by
   have:=h.2 i hi;have hu:∀{o:Oper} {K:Act->World->Prop} {r:Result Next},o.upon P a K (gh Q) r->o.upon P a K Q r:=by
    intro o K r hr;unfold Oper.upon at*;split<;>simp_all[gh];all_goals (first|exact hr.elim|skip)
    refine LL hr ?_;rintro e w' he;split<;>simp_all;let⟨_,_,hh⟩:=he;exact hh.elim
   unfold wpOp at*;cases ho:ops[i]? with
   |none=>rw[ho]at this;exact cO fuel _ _ _ P this
   |some o=>
    rw[ho]at this;simp only at this|-;by_cases hw:Region.wanted o (yielded ops a.tmps)=true
    .rw[an hw]at this|-;rcases this with h|h
     .exact .inl (hu (JB (λa' w' h=>cO fuel _ a' w' P h) h))
     let⟨_,_,_,hh⟩:=h;exact hh.elim
    rw[ac hw]at this|-;exact cO fuel _ _ _ P this⟩
def TJ(c:Cx)(ops:Array Oper)(Q:Exit->Act->World->Prop)(n:Nat)(listed:Array Bool)(E:Env)(R:Hp)(L:List Qj):Prop:=
 ∀fuel a w,n<=fuel->Fr c.n E a->Sat c.σ R L w->wpAny c.P .any ops (gh Q) fuel listed a w
def cg(n:Nat)(Ts:List Nat):Array Bool:=⟨(List.range n).map λj=> !Ts.contains j⟩
def wu(hs:listed.size=ops.size)(h:∀j,j<ops.size->(listed.getD j false=false↔j∈Ts)):listed=cg ops.size Ts:=by
 apply Array.ext;.simp[cg,hs]
 intro j h1 h2;have:=h j (by omega);rw[GL,Ht h1]at this;simp[cg,List.getElem_toArray,List.getElem_map,List.getElem_range];cases hb:listed[j]with
 |false=>rw[hb]at this;simp[this.1 rfl]
 |true=>rw[hb]at this;simp at this;simp[this]
variable{E:Env}{n:Nat}{listed:Array Bool}
def BD(hr:Region.ready .any ops listed=[])(h:EJ c (Q .normal) E R L):TJ c ops Q n listed E R L:=
 λfuel a w _ hf hs=>wpAny_done (Q:=gh Q) hr (h a w hf hs) fuel
def AJ(c:Cx)(ops:Array Oper)(Q:Exit->Act->World->Prop)(n:Nat)(listed:Array Bool)(E:Env)(R:Hp)(L:List Qj):List Nat->Prop
 |[]=>True
 |i::is=>(∃o,ops[i]?=some o/\RJ c ops (Exit.then (λa w=>∀fuel,n<=fuel->wpAny c.P .any ops (gh Q) fuel (listed.setIfInBounds i true) a w) (λ_ _ _=>False)) [o] E R L)/\AJ c ops Q n listed E R L is
def AJ.spec:∀{is:List Nat},AJ c ops Q n listed E R L is->∀i∈is,∃o,ops[i]?=some o/\RJ c ops (Exit.then (λa w=>∀fuel,n<=fuel->wpAny c.P .any ops (gh Q) fuel (listed.setIfInBounds i true) a w) (λ_ _ _=>False)) [o] E R L
 |[],_,i,h=>by cases h
 |j::is,h,i,hi=>by
  rcases Gn.1 hi with rfl|hi;.exact h.1
  exact AJ.spec h.2 i hi
def fD{K:Act->World->Prop}{Q':Exit->Act->World->Prop}(h:wpList P ops (Exit.then K (λ_ _ _=>False)) [o] a w)(hk:∀a' w',K a' w'->K' a' w'):
  if Region.wanted o (yielded ops a.tmps)then o.wp P a w K' Q' else K' (a.put o.dst undef) w:=by
 unfold wpList at h;split at h
 .rename_i hw;rw[an hw];rcases h with h|h
  .unfold Oper.wp at*;unfold Oper.upon at*;split<;>simp_all[wpList,Exit.then];.refine LL h ?_;rintro e w' he;split<;>simp_all;exact Gr he (by rintro⟨_,_,h⟩;exact h)
   exact Rows.mono h λv w' h=>hk _ _ h
  let⟨_,_,_,hh⟩:=h;exact hh.elim
 rename_i hw;rw[ac hw];exact hk _ _ h
def dD{rs:List Nat}(hr:Region.ready .any ops listed=rs)(hne:rs≠[])(h:AJ c ops Q n listed E R L rs):TJ c ops Q (n+1) listed E R L:=by
 intro fuel a w hn hf hs;obtain⟨fuel,rfl⟩:∃k,fuel=k+1:=⟨fuel-1,by omega⟩;refine wpAny_all hr hne λi hi=>?_;let⟨o,ho,hj⟩:=AJ.spec h i hi;have:=fD (Q':=gh Q) (hj a w hf hs) (K':=wpAny c.P .any ops (gh Q) fuel (listed.setIfInBounds i true)) (λa' w' hk=>hk fuel (by omega));unfold wpOp;rw[ho];simp only;split;.rename_i hw;rw[an hw]at this;exact .inl this
 rename_i hw;rw[ac hw]at this;exact this
def FH(h:TJ c ops Q n (listed.setIfInBounds i true) E R L):EJ c (λa w=>∀fuel,n<=fuel->wpAny c.P .any ops (gh Q) fuel (listed.setIfInBounds i true) a w) E R L:=
 λa w hf hs fuel hn=>h fuel a w hn hf hs
def uf:Op->Bool
 | .move _| .assign _| .pick .. | .nilCheck _| .fieldAddr .. | .indexAddr .. | .binOp .. | .unOp .. | .extract .. | .build .. =>true
 |_=>false
def jB:Result Next->Prop
 | .ok (.value _) _=>True
 | .ok _ _=>False
 |_=>True
def uk(s:Sem Value):jB ((do pure (Next.value (<-s)):Sem Next).run P w):=by
 rw[Iq];cases s.run P w<;>simp[Result.andThen,jB]
def xS(h:uf o.op=true)(ρ:Operand->Value)(w:World):jB ((execOp ρ o).run P w):=by
 let⟨d,op,ty,p,af,g⟩:=o;cases op<;>first|(simp[uf]at h;done)|exact uk _|(simp[execOp,jB];done)|skip
 all_goals (simp only[execOp])
 .rw[Iq];cases(asBool _).run P w<;>simp[jB,Result.andThen]
 split;.exact LH
 .exact LH
 .exact LH
 .split;.exact LH
  .simp only[Iq];cases h1:program.run P w with
   |ok x w'=>
    simp only[Result.andThen];cases h2:(nilAhead _ _ _ _).run P w' with
    |ok y w2=>simp only[Result.andThen];split<;>simp[jB]
    |halt y w2=>simp[Result.andThen,jB]
   |halt x w'=>simp[Result.andThen,jB]
  simp[jB]
 simp[jB]
def rZ(ho:ops[i]?=some o)(hd:o.dst=some d)(hb:Nat.blt d c.n=true)(hs:Region.noSelect ops=true)(hfr:Region.free .any ops listed i=true)(hr:(Region.ready .any ops listed).contains i=true)
  (hw:Wn c ops E o true) (hpu:uf o.op=true) (y:∀σ,Yld ⟨c.P,c.n,σ⟩ E Hp.emp [] o v) (h:TJ c ops Q n (listed.setIfInBounds i true) ((d,v)::E) R L):TJ c ops Q (n+1) listed E R L:=by
 intro fuel a w hn hf hsat;obtain⟨fuel,rfl⟩:∃k,fuel=k+1:=⟨fuel-1,by omega⟩;refine wpAny_take ho hs hfr hr (λc a w h=>h) (.inl ⟨hw a hf,λw=>?_⟩) (h fuel _ w (by omega) (by rw[hd];exact hf.put hb v) hsat);have:=y w a w ⟨hf.size,hf.dfs,hf.get⟩ ⟨rfl,rfl,rfl,λ_ _ h=>(by cases h),Hp.emp,λ_ _ h=>(by cases h),λ_=>.inl rfl,trivial⟩;have hv:=xS (P:=c.P) hpu a.eval w;revert this hv;cases hr:(execOp a.eval o).run c.P w with
 |ok x w'=>cases x<;>simp_all[jB,Oper.quietUpon]
 |halt x w'=>simp_all[Oper.quietUpon]
def gO(h:TJ c ops Q n (listed.setIfInBounds i true) E R L):
  RJ c ops (Exit.then (λa w=>∀fuel,n<=fuel->wpAny c.P .any ops (gh Q) fuel (listed.setIfInBounds i true) a w) Qx) [] E R L:=Qd (FH h)
def XK(c:Cx)(ops:Array Oper)(R:Hp)(L:List Qj)(K:Env->Hp->List Qj->Prop)(is:List Nat)(a:Act)(w:World):Prop:=
 ∃E' R' G',R.le R'/\Fr c.n E' a/\Sat c.σ R' (L++G') w/\XJ c ops L K is E' R' G'
def QU{R1:Hp}{K:Env->Hp->List Qj->Prop}{G':List Qj}(hR:R.le R1)(hS:Sub M (L++G'))(h:XJ c ops L K is E R1 G'):RJ c ops (Exit.then (XK c ops R L K is) Qx) [] E R1 M:=
 Qd λa w hf hs=>⟨E,R1,G',hR,hf,hs.sub hS,h⟩
def nN{K:Act->World->Prop}{Q':Exit->Act->World->Prop}(h:o.upon P a K (λ_ _ _=>False) r)(hd:∀a' w',K a' w'->a'.defers=[]):
  o.upon P a (λa' w'=>(∃u,a'=a.put o.dst u)/\K a' w') Q' r:=by
 unfold Oper.upon at*;split<;>simp_all;.exact⟨_,rfl⟩
 .exact⟨_,rfl⟩
 .have:=hd _ _ h;cases hdd:o.dst<;>simp[Act.put,hdd]at this
 .refine LL h ?_;rintro e w' he;split<;>simp_all;.exact⟨_,rfl⟩
  exact Gr he (by rintro⟨_,_,h⟩;exact h)
 exact Rows.mono h λv w' h=>⟨⟨v,rfl⟩,h⟩
def QT{K:Env->Hp->List Qj->Prop}(ho:ops[i]?=some o)
  (h:RJ c ops (Exit.then (XK c ops R L K is) (λ_ _ _=>False)) [o] E R (L++G)):XJ c ops L K (i::is) E R G:=
 ⟨o,ho,λa w hf hs=>by
  have:=fD (Q':=λ_ _ _=>False) (h a w hf hs) (K':=XK c ops R L K is) (λ_ _ h=>h)
  split
  .rename_i hw
   rw[an hw]at this
   refine JB ?_ (nN this λa' w' ⟨E',R',G',_,h1,_⟩=>h1.dfs)
   rintro a' w' ⟨⟨u,rfl⟩,E',R',G',hle,h1,h2,h3⟩
   exact⟨u,E',R',G',hle,rfl,h1,h2,h3⟩
  .rename_i hw
   rw[ac hw]at this
   exact this⟩
end
section
variable{c:Cx}{l:List Oper}{Q:Exit->Act->World->Prop}{R:Hp}{L:List Qj}{E:Env}
def C5(Fs Cs Ts:List Nat)(G0:List Qj)(hL:Sub L0 (L++G0))(hm:c.P.follows .mixedOrders=true)(hB:aQ l.toArray Fs Cs Ts=true)
  (h:FJ c l.toArray R L (λE'=>XJ c l.toArray L (λE R G=>TJ c l.toArray Q Ts.length (cg l.length Ts) E R (L++G)) Cs E' R G0) Fs E):CJ c (.region id l.toArray true) Q E R L0:=
 th (KK:=λE R G=>TJ c l.toArray Q Ts.length (cg l.length Ts) E R (L++G)) Fs Cs Ts G0 hL hm hB (λE R G h fuel listed a w hs hc hl hn hf hsat=>by
  have e:=wu hs hl
  subst e
  exact cO _ _ _ _ _ (by have:=h fuel a w hn hf hsat;simpa using this)) h
end
def m7(sz:Nat):Nat->List (Nat×Value)->Option (List Value)
 |_,[]=>some []
 |k,(i,v)::l=>cond (Nat.beq i k&&Nat.beq v.cells.size sz) ((m7 sz (k+1) l).map λr=>v.cells.toList++r) none
def l8{sz:Nat}:∀{l:List (Nat×Value)} {k:Nat} {r:List Value},m7 sz k l=some r->r.length=l.length*sz
 |[],k,r,h=>by simp only[m7,Hi]at h;subst h;simp
 |(i,v)::l,k,r,h=>by
  simp only[m7]at h;cases hb:(Nat.beq i k&&Nat.beq v.cells.size sz)with
  |false=>rw[hb]at h;cases h
  |true=>
   rw[hb]at h;simp only[Ll,I6]at h;obtain⟨r',h1,rfl⟩:=h;simp only[G6]at hb;have:=Is hb.2;simp only[Gm,GD,KN,l8 h1,this,G4];omega
def pG{sz:Nat}:∀(l:List (Nat×Value)) (k:Nat) (r:List Value) (cs:List Value),m7 sz k l=some r->(k+l.length)*sz<=cs.length->
  Instr.fill (λi=>some (i*sz,sz)) cs.toArray l=some (cs.take (k*sz)++r++cs.drop ((k+l.length)*sz)).toArray
 |[],k,r,cs,h,_=>by simp only[m7,Hi]at h;subst h;simp[Instr.fill]
 |(i,v)::l,k,r,cs,h,hl=>by
  simp only[m7]at h
  cases hb:(Nat.beq i k&&Nat.beq v.cells.size sz)with
  |false=>rw[hb]at h;cases h
  |true=>
   rw[hb]at h
   simp only[Ll,I6]at h
   obtain⟨r',h1,rfl⟩:=h
   simp only[G6]at hb
   obtain rfl:=Is hb.1
   have hsz:=Is hb.2
   have hm:(i+(l.length+1))*sz=i*sz+(l.length*sz+sz):=by rw[G4,G4,MD]
   have hm2:(i+1+l.length)*sz=i*sz+(l.length*sz+sz):=by rw[G4,G4,MD];omega
   have hm3:(i+1)*sz=i*sz+sz:=by rw[G4,MD]
   simp only[GD]at hl
   simp only[Instr.fill]
   rw[ac (by simp[hsz];omega)]
   have hf:=mT v.cells.toList 0 (i*sz) cs (by simp[hsz];omega)
   have ez:v.cells.zipIdx=(v.cells.toList.zipIdx 0).toArray:=by apply J6;simp
   rw[ez]
   simp only[List.foldl_toArray']
   rw[hf]
   have hcl:v.cells.toList.length=sz:=by simp[hsz]
   rw[pG l (i+1) r' _ h1 (by simp only[Gm,GX,Hh,hcl];rw[hm2];omega)]
   congr 2
   rw[Ha (by simp only[Gm,GX,hcl];omega),Gx (by simp only[Gm,GX,hcl];omega)]
   rw[List.drop_append,IM (by simp only[Gm,GX,hcl];omega)]
   simp only[Gm,GX,hcl,Hr,HL,GD,hm,GA]
   congr 4
   omega
section
variable{c:Cx}{ops:Array Oper}{Q:Exit->Act->World->Prop}{E:Env}{R:Hp}{L M:List Qj}{rest:List Oper}{ty:TypeId}{p:String}{af:Array Edge}{g:Option (Nat×Bool)}
def Qv{t e:TypeId}{len:Nat}{parts:List (Nat×Operand)}{vs:List (Nat×Value)}{z:Value}(hw:Wn c ops E ⟨some d,.buildSlice t len ⟨parts⟩,ty,p,af,g⟩ true)(hn:Nat.blt d c.n=true)
  (hT:c.P.underlying t=some (.slice e)) (hS:∀w,(sizeOf e).run c.P w=.ok sz w) (hZ:∀w,(zeroValue e).run c.P w=.ok z w) (hv:evp E parts=some vs) (hp:m7 sz 0 vs=some xs) (hlen:vs.length=len) (hk:len*sz<=16777216) (hm:len<=maxLen)
  (h:∀b,RJ c ops Q rest ((d,.slice (some ⟨b,0,none⟩) len len)::E) R (QN e sz (.slice (some ⟨b,0,none⟩) len len) len xs::L)):RJ c ops Q (⟨some d,.buildSlice t len ⟨parts⟩,ty,p,af,g⟩::rest) E R L:=by
 refine fX (v:=λb=>.slice (some ⟨b,0,none⟩) len len) (L':=λb=>QN e sz (.slice (some ⟨b,0,none⟩) len len) len xs::L) hw rfl hn (λa w hf hs=>⟨w.heap.size,w.alloc (.cells ⟨xs⟩ e (0,0)),?_,?_⟩) h
 .have hv':=hf.evp hv;have e0:(Array.mk parts).map (λx=>(x.1,a.eval x.2))=⟨vs⟩:=by rw[<-hv'];simp
  have hxl:=l8 hp;have hfill:∀zz:Array Value,Instr.fill (λi=>some (i*sz,sz)) ((Array.range (len*sz)).map (zz[·%zz.size]!)) vs=some ⟨xs⟩:=by
   intro zz;have:=pG vs 0 xs ((List.range (len*sz)).map (λi=>zz[i%zz.size]!)) hp (by simp[hlen]);have e2:((Array.range (len*sz)).map (zz[·%zz.size]!))=((List.range (len*sz)).map (λi=>zz[i%zz.size]!)).toArray:=by
    apply J6;simp
   rw[e2,this];simp[hlen]
  have hk':¬(16777216<len*sz):=by omega
  simp only[execOp];rw[show(Array.map (λx=>match x with|(i,x)=>(i,a.eval x)) (Array.mk parts))=(Array.mk parts).map (λx=>(x.1,a.eval x.2))from rfl,e0];by_cases h0:len*sz=0;.simp[Instr.buildSlice,run_underlying hT,hS,hk',h0];have:=hfill #[];simp only[h0]at this;simp at this;simp[this,newRow]
  simp[Instr.buildSlice,run_underlying hT,hS,hk',h0,hZ];have:=hfill z.cells;rw[this];simp[newRow]
 refine Sat.turn (λh hh=>?_) (hs.alloc (.cells ⟨xs⟩ e (0,0)));have hxl:=l8 hp;rw[hlen]at hxl;exact⟨hxl,.inr ⟨w.heap.size,len,(0,0),[],[],rfl,by simpa using hh,λo _ h=>by simp at h,Gl _,hm,by simp[hxl]⟩⟩
def gN{x:Tmp}{t et:TypeId}(hT:ZZ c.P t)(e:lk E x=some (.pointer (some ⟨b,off,none⟩)))(f:Find (QA b l et) L M)(h:ZO l off=some v):RV c E R L (.cell x t) v:=
 λa w hf hs=>by
  have h1:=hf.get x _ e;have h2:w.cell? ⟨b,off,none⟩=some v:=by rw[(hs.find f).blk_cell];exact h
  simp[ls,h1,asAddr,loadVar,hT.1,load,Sem.run,h2]
def QP{x:Tmp}{t et:TypeId}(hT:yz c.P t n)(e:lk E x=some (.pointer (some ⟨b,off,none⟩)):=by exact rfl)(f:Find (QA b l et) L M:=by(repeat(first|exact zH _|apply zT));done)(h:(l.drop off).take n=vs:=by exact rfl)(hn:vs.length=n:=by exact rfl):RV c E R L (.cell x t) (.agg ⟨vs⟩):=
 λa w hf hs=>by
  have h1:=hf.get x _ e
  have h2:=fV (P:=c.P) (w:=w) (b:=b) vs off 0 #[] (λj v hj=>by
   rw[I7,(hs.find f).blk_cell,qr];subst h;rw[HS]at hj;split at hj;.rwa [HF]at hj
   cases hj)
  simp[ls,h1,asAddr,loadVar,hT.1,hT.2,loadCells,<-hn,h2]
def FrozenS(R:Hp)(v:Value)(n:Nat)(xs:List Value):Prop:=(v=.slice none 0 0/\n=0)\/∃b off cap,v=.slice (some ⟨b,off,none⟩) n cap/\n<=cap/\cap<=maxLen/\∀(j:Nat) (u:Value),xs[j]?=some u->Hp.cell R ⟨b,off+j,none⟩=some u
def bB{e:TypeId}(h:∃h:Hp,h.le R'/\QN e sz v n xs h):FrozenS R' v n xs/\xs.length=n*sz:=by
 let⟨h,hle,hl,hs⟩:=h;refine⟨?_,hl⟩;rcases hs with⟨h1,h2⟩|⟨g,cap,fz,pre,post,rfl,h2,_,h3,h4,_⟩
 .exact .inl ⟨h1,h2⟩
 refine .inr ⟨g,pre.length,cap,rfl,h3,h4,λj u hj=>?_⟩;have hb:=hle _ _ h2;have hlt:=(Gj.1 hj).1;simp only[Hp.cell,hb];simp;rw[GY (by omega),Jv,GG hlt,hj]
def wV{x:Code}{e:TypeId}(f:Find (QN e sz v n xs) L M)(h:∀R',R.le R'->FrozenS R' v n xs->xs.length=n*sz->CJ c x Q E R' M):CJ c x Q E R L:=λa w hf hs=>by
 let⟨R',h1,h2,h3⟩:=(hs.find f).freeze;exact h R' h1 (bB h2).1 (bB h2).2 a w hf h3
def wT{e:TypeId}(f:Find (QN e sz v n xs) L M)(h:∀R',R.le R'->FrozenS R' v n xs->xs.length=n*sz->EJ c q E R' M):EJ c q E R L:=λa w hf hs=>by
 let⟨R',h1,h2,h3⟩:=(hs.find f).freeze;exact h R' h1 (bB h2).1 (bB h2).2 a w hf h3
def YC{l:List Oper}{e:TypeId}(f:Find (QN e sz v n xs) L M)(h:∀R',R.le R'->FrozenS R' v n xs->xs.length=n*sz->RJ c ops Q l E R' M):RJ c ops Q l E R L:=λa w hf hs=>by
 let⟨R',h1,h2,h3⟩:=(hs.find f).freeze;exact h R' h1 (bB h2).1 (bB h2).2 a w hf h3
def Zo{d:Option Tmp}{fn:Fn}{first cap:List Operand}{fs:List Value}(h1:evs E first=some fs:=by exact rfl)(h2:evs E cap=some cs:=by exact rfl):Yld c E R L ⟨d,.makeFunc fn ⟨first⟩ ⟨cap⟩,ty,p,af,g⟩ (.func fn ⟨fs⟩ ⟨cs⟩):=
 λa w hf _=>by
  have e1:(Array.mk first).map a.eval=⟨fs⟩:=by rw[<-hf.evs h1];simp
  have e2:(Array.mk cap).map a.eval=⟨cs⟩:=by rw[<-hf.evs h2];simp
  simp[execOp,Instr.makeFunc,e1,e2,Oper.quietUpon]
def mp{d:Option Tmp}{xs:List Operand}(hx:a.eval x=.func (.func f) ⟨[]⟩ ⟨cs⟩)(hc:∀args w,(callFunc f args).run c.P w=.ok (.enter f args) w)
  (hv:xs.map a.eval=vs):(execOp a.eval ⟨d,.call {callee:=.value x,args:=⟨xs⟩,argTypes:=ts},ty,p,af,g⟩).run c.P w=.ok (.enter f ⟨vs++cs⟩) w:=by
 have e:(Array.mk xs).map a.eval=⟨vs⟩:=by rw[<-hv];simp
 have e2:(Array.mk vs)++(Array.mk cs)=⟨vs++cs⟩:=by simp
 simp[execOp,resolve,hx,Deferred.ofValue,invoke,e,hc,e2]
def rO{d:Option Tmp}{xs:List Operand}(hx:ev E x=some (.func (.func f) ⟨[]⟩ ⟨cs⟩))(hc:∀args w,(callFunc f args).run c.P w=.ok (.enter f args) w)
  (hv:evs E xs=some vs) (ht:QTri c.P f (vs++cs) R pre v) (hs:Split L pre F):Yld c E R L ⟨d,.call {callee:=.value x,args:=⟨xs⟩,argTypes:=ts},ty,p,af,g⟩ v:=
 λa w hf hw=>by
  rw[mp (hf.ev hx) hc (hf.evs hv)]
  exact⟨rfl,(ht _ _ _ (hs.sat hw)).mono λe w' ⟨h1,h2⟩=>⟨h1,hs.satBack h2⟩⟩
def xF{xs:List Operand}
  (hw:Wn c ops E ⟨some d,.call {callee:=.value x,args:=⟨xs⟩,argTypes:=ts},ty,p,af,g⟩ true) (hn:Nat.blt d c.n=true) (hx:ev E x=some (.func (.func f) ⟨[]⟩ ⟨cs⟩)) (hc:∀args w,(callFunc f args).run c.P w=.ok (.enter f args) w)
  (hv:evs E xs=some vs) (ht:Tri c.P f (vs++cs) R pre post pan) (hs:Split L pre F)
  (hp:∀ch R' L',R.le R'->pan ch R' L'->EJ c (Q (.panic ch)) E R' (L'++F))
  (h:∀v R' L',R.le R'->post v R' L'->RJ c ops Q rest ((d,v)::E) R' (L'++F)):
  RJ c ops Q (⟨some d,.call {callee:=.value x,args:=⟨xs⟩,argTypes:=ts},ty,p,af,g⟩::rest) E R L:=by
 intro a w hf hsat;unfold wpList;rw[an (hw a hf)];refine .inl ?_;unfold Oper.wp;rw[mp (hf.ev hx) hc (hf.evs hv)];refine(ht _ _ _ (hs.sat hsat)).mono λe w' ⟨R',L',hR,hw',hpost⟩=>?_;cases e with
 |returned v=>exact h v R' L' hR hpost _ _ (hf.put hn v) hw'
 |panicked ch=>exact hp ch R' L' hR hpost _ _ hf hw'
 |outgrown=>exact hpost.elim
end
def gS(ops:Array Oper)(Fs Cs Ts:List Nat):Bool:=
 iS ops&&((List.range ops.size).all λi=>Fs.contains i||Cs.contains i||Ts.contains i)&&Fs.Nodup&&Cs.Nodup&&Ts.Nodup&&
 (Fs.all λi=> !Ym ops i i)&&(Fs.all λi=>Nat.blt i ops.size&& !Cs.contains i&& !Ts.contains i)&&(Cs.all λi=>Nat.blt i ops.size&& !Ts.contains i)&&(Ts.all λi=>Nat.blt i ops.size)&&
 aO ops Fs&&(Fs.all λi=>zU ops i)&&(Cs.all λi=>zU ops i)&&
 (Fs.all λi=>Cs.all λk=> !Ym ops i k&& !qc ops i k&& !qc ops k i&&(ZH ops ops.size k i|| !Ym ops k i))&&
 (Fs.all λi=>Ts.all λk=>ZH ops ops.size k i)&&(Cs.all λi=>Ts.all λk=>ZH ops ops.size k i)
def kK(ops:Array Oper)(rem:List Nat)(i:Nat):Bool:=rem.all λj=> !ZH ops ops.size i j
def PE(PX:List PanicEntry->World->Prop):Exit->Act->World->Prop:=λe _ w=>∃ch,e=.panic ch/\PX ch w
section
variable{c:Cx}{ops:Array Oper}{Q:Exit->Act->World->Prop}{R:Hp}{L:List Qj}
def YJ(c:Cx)(ops:Array Oper)(L:List Qj)(PX:List PanicEntry->World->Prop)(X:Env->Hp->List Qj->Prop)(i:Nat)(E:Env)(R:Hp)(G:List Qj):Prop:=
 ∃o,ops[i]?=some o/\∀a w,Fr c.n E a->Sat c.σ R (L++G) w->
   if Region.wanted o (yielded ops a.tmps)then o.wp c.P a w (λa' w'=>∃u E' R' G',R.le R'/\a'=a.put o.dst u/\Fr c.n E' a'/\Sat c.σ R' (L++G') w'/\X E' R' G') (PE PX)
   else∃E' R' G',R.le R'/\Fr c.n E' (a.put o.dst undef)/\Sat c.σ R' (L++G') w/\X E' R' G'
def XS(c:Cx)(ops:Array Oper)(L:List Qj)(K:Env->Hp->List Qj->Prop)(PX:List PanicEntry->World->Prop):Nat->List Nat->Env->Hp->List Qj->Prop
 |0,_,E,R,G=>K E R G
 |n+1,rem,E,R,G=>∀i∈rem,kK ops rem i=true->YJ c ops L PX (XS c ops L K PX n (rem.erase i)) i E R G
def ii:∀(p:List (Nat×Value)) (a:Act),(Yd ops a p).defers=a.defers
 |[],_=>rfl
 |(i,v)::p,a=>by
  have:=ii p a;simp[Yd];cases h:((ops[i]?).bind (·.dst))<;>simp[Act.put,this]
def mg:∀(p:List (Nat×Value)) (a:Act),(Yd ops a p).tmps.size=a.tmps.size
 |[],_=>rfl
 |(i,v)::p,a=>by
  have:=mg p a;simp[Yd];cases h:((ops[i]?).bind (·.dst))<;>simp[Act.put,this]
def Fr.bare(h1:a.tmps.size=n)(h2:a.defers=[]):Fr n [] a:=⟨h1,h2,λt v e=>by simp[lk]at e⟩
def tL{V:Act}{K:Act->World->Prop}(h:o.upon c.P V K' (PE PX) r)(hk:∀u w',K' (V.put o.dst u) w'->K (a.put o.dst u) w')
  (hd:∀(q:Deferred) w',¬K' (({V with defers:=q::V.defers}:Act).put o.dst undef) w') (hp:∀ch w',PX ch w'->Q (.panic ch) a w'):o.upon c.P a K Q r:=by
 cases r with
 |ok n w'=>
  cases n<;>simp[Oper.upon]at h|- <;>first|exact hk _ _ h|exact(hd _ _ h).elim|exact h.elim|skip
  case enter f args=>
   refine h.mono λe w'' hh=>?_;cases e with
   |returned v=>exact hk _ _ hh
   |panicked ch=>obtain⟨ch',e,hx⟩:=hh;cases e;exact hp _ _ hx
   |outgrown=>obtain⟨_,_,ch',e,_⟩:=hh;cases e
  case row row args=>exact h.mono λv w'' hh=>hk _ _ hh
 |halt x w'=>
  cases x<;>simp[Oper.upon]at h|-;let⟨ch',e,hx⟩:=h;cases e;exact hp _ _ hx
def Gd(c:Cx)(ops:Array Oper)(Q:Exit->Act->World->Prop)(R:Hp)(L:List Qj)(PX:List PanicEntry->World->Prop)(Fs Cs Ts:List Nat)(fuel:Nat)(listed:Array Bool)(a:Act)(w:World):Prop:=
 listed.size=ops.size/\Closed1 ops listed/\
 ∃(pend:List (Nat×Value)) (cs:List Nat) (E:Env) (R1:Hp) (G:List Qj),R.le R1/\(∀x∈pend,x.1∈Fs)/\(pend.map (·.1)).Nodup/\((∀j∈cs,j∈Cs)/\cs.Nodup)/\
   XS c ops L (λE R G=>TK c ops Q R Ts (L++G) E) PX cs.length cs E R1 G/\Fr c.n E (Yd ops a pend)/\Sat c.σ R1 (L++G) w/\(∀x∈pend,QK c ops R L x (Yd ops a pend))/\
   (∀j,j<ops.size->(listed.getD j false=false↔j∈pend.map (·.1)\/j∈cs\/j∈Ts))/\pend.length+cs.length+Ts.length<=fuel
def y8(hpan:∀ch (a:Act) w,Fr c.n [] a->PX ch w->Q (.panic ch) a w){Fs Cs:List Nat}(hB:gS ops Fs Cs Ts=true):∀(fuel:Nat) (listed:Array Bool) (a:Act) (w:World),Gd c ops Q R L PX Fs Cs Ts fuel listed a w->wpAny c.P .any ops Q fuel listed a w:=by
 simp only[gS,G6,Hm,HX,HZ,HR]at hB;obtain⟨⟨⟨⟨⟨⟨⟨⟨⟨⟨⟨⟨⟨⟨hlow,hcover⟩,hFn⟩,hCn⟩,hTn⟩,hself⟩,hF⟩,hC⟩,hT⟩,hpair⟩,hFs⟩,hCs⟩,hFC⟩,hFT⟩,hCT⟩:=hB;have hFlt:∀i∈Fs,i<ops.size:=λi hi=>Hw (HM _) (Gz (hF i hi).1.1);have hClt:∀i∈Cs,i<ops.size:=λi hi=>Hw (HM _) (Gz (hC i hi).1);intro fuel;induction fuel with
 |zero=>
  rintro listed a w ⟨hs,hc,pend,cs,E,R1,G,hR1,hp,hpn,_,hX,hE,hw,hq,hl,hf⟩;have e1:=Hk (l:=pend) (by omega);have e2:=Hk (l:=cs) (by omega);subst e1 e2;exact hX 0 listed a w hs hc (λj hj=>(hl j hj).trans (by simp)) (by simpa using hf) hE hw
 |succ fuel ih=>
  rintro listed a w ⟨hs,hc,pend,cs,E,R1,G,hR1,hp,hpn,⟨hcC,hcn⟩,hX,hE,hw,hq,hl,hf⟩;by_cases hall:pend=[]/\cs=[];.obtain⟨rfl,rfl⟩:=hall;exact hX (fuel+1) listed a w hs hc (λj hj=>(hl j hj).trans (by simp)) (by simpa using hf) hE hw
  have hpu:∀y∈pend,listed.getD y.1 false=false:=λy hy=>(hl _ (hFlt _ (hp y hy))).2 (.inl (Gu.2 ⟨y,hy,rfl⟩));have hcsu:∀j∈cs,listed.getD j false=false:=λj h=>(hl _ (hClt _ (hcC _ h))).2 (.inr (.inl h));refine⟨λhr=>?_,λi hi=>?_⟩
  .exfalso;have:∃j,j<ops.size/\listed.getD j false=false:=by
    cases hpe:pend with
    |cons y p=>exact⟨y.1,hFlt _ (hp y (by rw[hpe];simp)),hpu y (by rw[hpe];simp)⟩
    |nil=>cases hce:cs with
     |cons k p=>exact⟨k,hClt _ (hcC k (by rw[hce];simp)),hcsu k (by rw[hce];simp)⟩
     |nil=>exact Gr ⟨hpe,hce⟩ hall
   obtain⟨j,hj,hu⟩:=this;obtain⟨k,hk⟩:=jG hlow hs j hj hu;rw[hr]at hk;cases hk
  obtain⟨h0,o,ho,hdeps⟩:=mem_ready.1 hi;have hilt:i<ops.size:=(G9.1 ho).1;have hu:listed.getD i false=false:=by
   rw[GL]at h0|-;rw[Ht (by omega)]at h0|-;simpa using h0
  have hanc:∀j,ZH ops ops.size i j=true->listed.getD j false=true:=λj hj=>aW hc _ i j hj λo' ho'=>by rw[ho]at ho';cases ho';exact hdeps
  have hs':(listed.setIfInBounds i true).size=ops.size:=by simpa using hs
  have hc':Closed1 ops (listed.setIfInBounds i true):=hc.set hs hi;have hgd:∀j,(listed.setIfInBounds i true).getD j false=if j=i then true else listed.getD j false:=λj=>bT (by omega);skip;by_cases hip:i∈pend.map (·.1)
  .
   obtain⟨x,hx,rfl⟩:=Gu.1 hip
   obtain⟨p1,p2,rfl⟩:=J0 hx
   have hxF:=hp x hx
   have hnot:∀y∈p1++p2,y.1≠x.1:=by
    intro y hy he
    simp only[Ie,Hf]at hpn
    have hn:=Hb.1 hpn
    rcases GE.1 hy with h|h
    .exact hn.2.2 y.1 (Gu.2 ⟨y,h,rfl⟩) x.1 (by simp) he
    .have:=(Id.1 hn.2.1).1
     exact this (Gu.2 ⟨y,h,he⟩)
   have hsub:∀y∈p1++p2,y∈p1++x::p2:=λy hy=>by simp at hy|-;rcases hy with h|h<;>simp[h]
   have hlook:∀y∈p1++x::p2,Ym ops x.1 y.1=false:=by
    intro y hy
    by_cases he:y.1=x.1
    .rw[he];exact hself _ hxF
    .rcases(jw hpair hxF (hp y hy) (Mk he)).1 with h|h
     .exact h
     .have:=hanc _ h;rw[hpu y hy]at this;cases this
   have hqa:QK c ops R L x a:=QK.unvirt hlook (hq x hx)
   obtain⟨o',ho',hsel,hqq⟩:=hqa
   rw[ho]at ho';cases ho'
   have hvt:=ja (ops:=ops) (x:=x) p1 p2 a λy hy e he=>yY (hFlt _ (hp y (hsub y hy))) (jw hpair (hp y (hsub y hy)) hxF (hnot y hy)).2 e he
   have next:∀w',Sat c.σ R1 (L++G) w'->wpAny c.P .any ops Q fuel (listed.setIfInBounds x.1 true) (a.put o.dst x.2) w':=by
    intro w' hw'
    have hod:o.dst=XZ ops x.1:=by simp[XZ,ho]
    rw[hod]
    refine ih _ _ _ ⟨hs',hc',p1++p2,cs,E,R1,G,hR1,λy hy=>hp y (hsub y hy),?_,⟨hcC,hcn⟩,hX,by rw[<-hvt];exact hE,hw',λy hy=>by rw[<-hvt];exact hq y (hsub y hy),λj hj=>?_,?_⟩
    .simp only[Ie,Hf]at hpn|-
     have hn:=Hb.1 hpn
     exact Hb.2 ⟨hn.1,(Id.1 hn.2.1).2,λu hu v hv=>hn.2.2 u hu v (by simp[hv])⟩
    .rw[hgd]
     by_cases hji:j=x.1
     .rw[an hji]
      simp only[IA,false_iff,LC]
      subst hji
      refine⟨λh=>?_,λh=>?_,λh=>?_⟩
      .obtain⟨y,hy,he⟩:=Gu.1 h;exact hnot y hy he
      .have:=(hF _ hxF).1.2;simp[hcC _ h]at this
      .have:=(hF _ hxF).2;simp[h]at this
     .rw[ac hji,hl j hj]
      simp only[Ie,Hf,GE,Gn]
      constructor
      .rintro((h|h|h)|h)<;>first|exact Gr h hji|simp[h]
      .rintro((h|h)|h)<;>simp[h]
    .simp at hf|-;omega
   unfold wpOp
   rw[ho]
   simp only
   cases hwt:Region.wanted o (yielded ops a.tmps)with
   |true=>
    refine .inl (Kh (C:=Sat c.σ R1 (L++G)) (K:=λa'=>a'=a.put o.dst x.2) hw (λa' w' hw' ha'=>by subst ha';exact next w' hw') ⟨x.2,λw' hw'=>?_,rfl⟩)
    rcases hqq R1 hR1 G w' hw' with h|h
    .exact h.2
    .rw[hwt]at h;cases h.1
   |false=>
    rcases hqq R1 hR1 G w hw with h|h
    .rw[hwt]at h;cases h.1
    .have:=next w hw;rw[h.2]at this;exact this
  have hmem:i∈cs:=by
   rcases(hl i hilt).1 hu with h|h|h
   .exact Gr h hip
   .exact h
   exfalso;cases hpe:pend with
   |cons y p=>have:=hanc _ (hFT _ (hp y (by rw[hpe];simp)) i h);rw[hpu y (by rw[hpe];simp)]at this;cases this
   |nil=>cases hce:cs with
    |cons k p=>have:=hanc _ (hCT k (hcC k (by rw[hce];simp)) i h);rw[hcsu k (by rw[hce];simp)]at this;cases this
    |nil=>exact Gr ⟨hpe,hce⟩ hall
  have hfirst:kK ops cs i=true:=by
   unfold kK;rw[Hm];intro j hj;cases ha:ZH ops ops.size i j with
   |false=>rfl
   |true=>have:=hanc j ha;rw[hcsu j hj]at this;cases this
  obtain⟨n,hn⟩:∃n,cs.length=n+1:=⟨cs.length-1,by have:=Mp hmem;omega⟩;rw[hn]at hX;have hkC:i∈Cs:=hcC i hmem;have hlk:∀y∈pend,∀d,XZ ops y.1=some d->d∉o.looksAt ops:=by
   intro y hy;refine aq ho ?_;rcases(hFC _ (hp y hy) i hkC).2 with h|h
   .have:=hanc _ h;rw[hpu y hy]at this;cases this
   exact h
  have hsel:=zo ho (hCs i hkC);obtain⟨o',ho',hstep⟩:=hX i hmem hfirst;rw[ho]at ho';cases ho';have hst:=hstep _ w hE hw;rw[aa hlk]at hst;have hod:o.dst=XZ ops i:=by simp[XZ,ho]
  have hvp:∀u,Yd ops (a.put o.dst u) pend=(Yd ops a pend).put o.dst u:=λu=>bN pend a λy hy e he=>by
   rw[hod]at he;exact yY (hFlt _ (hp y hy)) ((hFC _ (hp y hy) i hkC).1.1.2) e he
  have hdf:Fr c.n [] a:=.bare (by have:=hE.size;rwa [mg]at this) (by have:=hE.dfs;rwa [ii]at this);have hlen:(cs.erase i).length=n:=by rw[Jo hmem];omega
  have next:∀u w' E' R2 G',R1.le R2->Fr c.n E' ((Yd ops a pend).put o.dst u)->Sat c.σ R2 (L++G') w'->XS c ops L (λE R G=>TK c ops Q R Ts (L++G) E) PX n (cs.erase i) E' R2 G'->
    wpAny c.P .any ops Q fuel (listed.setIfInBounds i true) (a.put o.dst u) w':=by
   intro u w' E' R2 G' hle hE' hw' hX'
   refine ih _ _ _ ⟨hs',hc',pend,cs.erase i,E',R2,G',Hp.le_trans hR1 hle,hp,hpn,⟨λj hj=>hcC j (Ms hj),hcn.erase i⟩,by rw[hlen];exact hX',by rw[hvp];exact hE',hw',λy hy=>?_,λj hj=>?_,?_⟩
   .rw[hvp,hod]
    exact QK.put ((hFC _ (hp y hy) i hkC).1.1.1) (hq y hy)
   .rw[hgd]
    by_cases hji:j=i
    .rw[an hji]
     simp only[IA,false_iff,LC]
     subst hji
     refine⟨hip,λh=>?_,λh=>?_⟩
     .exact hcn.not_mem_erase h
     .have:=(hC _ hkC).2;simp[h]at this
    .rw[ac hji,hl j hj,MF hji]
   .rw[hlen];omega
  unfold wpOp;rw[ho];simp only;cases hwt:Region.wanted o (yielded ops a.tmps)with
  |true=>
   rw[hwt,an rfl]at hst;refine .inl ?_;unfold Oper.wp at hst|-;rw[aj hsel hlk]at hst;refine tL hst ?_ ?_ ?_;.rintro u w' ⟨u',E',R2,G',hle,he,h1,h2,h3⟩;exact next u w' E' R2 G' hle h1 h2 h3
   .rintro q w' ⟨u',E',R2,G',hle,he,h1,h2,h3⟩;have:=h1.dfs;cases hd2:o.dst<;>simp[Act.put,hd2]at this
   exact λch w' h=>hpan ch a w' hdf h
  |false=>
   rw[hwt,ac (by decide)]at hst;obtain⟨E',R2,G',hle,h1,h2,h3⟩:=hst;exact next undef w E' R2 G' hle h1 h2 h3
end
section
variable{c:Cx}{l:List Oper}{Q:Exit->Act->World->Prop}{E:Env}{R:Hp}{L:List Qj}
def Ay(Fs Cs Ts:List Nat)(G0:List Qj){KK:Env->Hp->List Qj->Prop}(hpan:∀ch (a:Act) w,Fr c.n [] a->PX ch w->Q (.panic ch) a w)(hL:Sub L0 (L++G0))(hm:c.P.follows .mixedOrders=true)(hB:gS l.toArray Fs Cs Ts=true)
  (hK:∀E R G,KK E R G->TK c l.toArray Q R Ts (L++G) E)
  (h:FJ c l.toArray R L (λE'=>XS c l.toArray L KK PX Cs.length Cs E' R G0) Fs E):CJ c (.region id l.toArray true) Q E R L0:=by
 intro a w hf hs0;have hs:=hs0.sub hL;refine wp_region_any hm (y8 (Q:=Q) (R:=R) (L:=L) (PX:=PX) hpan hB _ _ _ _ ?_);have hB':=hB;simp only[gS,G6,Hm,HX,HZ,HR]at hB';obtain⟨⟨⟨⟨⟨⟨⟨⟨⟨⟨⟨⟨⟨⟨hlow,hcover⟩,hFn⟩,hCn⟩,hTn⟩,hself⟩,hF⟩,hC⟩,hT⟩,hpair⟩,hFs⟩,hCs⟩,hFC⟩,hFT⟩,hCT⟩:=hB';have key:∀(Fs:List Nat) (a:Act) (E:Env),(∀i∈Fs,Ym l.toArray i i=false)->(∀i∈Fs,zU l.toArray i=true)->aO l.toArray Fs=true->Fr c.n E a->
   FJ c l.toArray R L (λE'=>XS c l.toArray L KK PX Cs.length Cs E' R G0) Fs E->
   ∃(pend:List (Nat×Value)) (E':Env),pend.map (·.1)=Fs/\Fr c.n E' (Yd l.toArray a pend)/\(∀x∈pend,QK c l.toArray R L x (Yd l.toArray a pend))/\XS c l.toArray L KK PX Cs.length Cs E' R G0:=by
  intro Fs
  induction Fs with
  |nil=>intro a E _ _ _ hf h;exact⟨[],E,rfl,hf,λx hx=>(by cases hx),h⟩
  |cons i is ih=>
   intro a E hself hsel hpair hf h
   obtain⟨v,E1,⟨o,d,ho,hd,hn,rfl,hspec⟩,hrest⟩:=h
   have hpair':=hpair
   simp only[aO,G6,Hm,HX,HZ]at hpair'
   have hda:XZ l.toArray i=some d:=by unfold XZ;rw[ho];exact hd
   obtain⟨pend,E',e1,e2,e3,e4⟩:=ih (a.put (some d) v) _ (λj hj=>hself j (by simp[hj])) (λj hj=>hsel j (by simp[hj])) hpair'.2 (hf.put hn v) hrest
   have hmem:∀y∈pend,y.1∈is:=λy hy=>by rw[<-e1];exact Gu.2 ⟨y,hy,rfl⟩
   have hvt:Yd l.toArray a ((i,v)::pend)=Yd l.toArray (a.put (some d) v) pend:=by
    have:=ja (ops:=l.toArray) (x:=(i,v)) [] pend a λy hy e he=>by
     exact yY (by
      have:=hmem y hy
      rw[<-e1]at this
      obtain⟨z,hz,hze⟩:=Gu.1 this
      obtain⟨o',ho',_⟩:=e3 z hz
      rw[<-hze]
      exact(G9.1 ho').1) (hpair'.1 y.1 (hmem y hy)).1.2 e he
    simpa[hda]using this
   refine⟨(i,v)::pend,E',by simp[e1],by rw[hvt];exact e2,λx hx=>?_,e4⟩
   rw[hvt]
   rcases Gn.1 hx with rfl|hx
   .have q0:QK c l.toArray R L (i,v) a:=⟨o,ho,zo ho (hsel i (by simp)),λR' hR G w hw=>by
     rcases hspec with⟨hw1,hy⟩|⟨hw1,hy⟩
     .exact .inl ⟨hw1 a hf,hy R' hR G a w hf hw⟩
     .exact .inr ⟨hw1 a hf,hy⟩⟩
    have q1:QK c l.toArray R L (i,v) (a.put (XZ l.toArray i) v):=QK.put (hself i (by simp)) q0
    rw[hda]at q1
    have:∀(p:List (Nat×Value)) (a:Act),(∀y∈p,Ym l.toArray i y.1=false)->QK c l.toArray R L (i,v) a->QK c l.toArray R L (i,v) (Yd l.toArray a p):=by
     intro p
     induction p with
     |nil=>intro a _ q;exact q
     |cons y p ihp=>intro a hp q;exact QK.put (hp y (by simp)) (ihp a (λz hz=>hp z (by simp[hz])) q)
    exact this pend _ (λy hy=>(hpair'.1 y.1 (hmem y hy)).1.1.1) q1
   .exact e3 x hx
 obtain⟨pend,E',e1,e2,e3,e4⟩:=key Fs a E hself hFs hpair hf h;have hmono:∀(n:Nat) (cs:List Nat) (E:Env) (R:Hp) (G:List Qj),XS c l.toArray L KK PX n cs E R G->XS c l.toArray L (λE R G=>TK c l.toArray Q R Ts (L++G) E) PX n cs E R G:=by
  intro n;induction n with
  |zero=>intro cs E R G h;exact hK E R G h
  |succ n ih=>
   intro cs E R G h i hi hfi;obtain⟨o,ho,hst⟩:=h i hi hfi;refine⟨o,ho,λa w ha hw=>?_⟩;have:=hst a w ha hw;split;.rename_i hwt;rw[an hwt]at this;exact JB (λa' w' ⟨u,E',R',G',hle,h1,h2,h3,h4⟩=>⟨u,E',R',G',hle,h1,h2,h3,ih _ _ _ _ h4⟩) this
   rename_i hwt;rw[ac hwt]at this;obtain⟨E',R',G',hle,h1,h2,h3⟩:=this;exact⟨E',R',G',hle,h1,h2,ih _ _ _ _ h3⟩
 have hrep:∀j,(Array.replicate l.toArray.size false).getD j false=false:=λj=>by
  rw[GL,Ka];split<;>rfl
 refine⟨by simp,λi o _ hl=>(by rw[hrep]at hl;cases hl),pend,Cs,E',R,G0,Hp.le_refl R,λx hx=>by rw[<-e1];exact Gu.2 ⟨x,hx,rfl⟩,by rw[e1];exact hFn,⟨λ_ h=>h,hCn⟩,hmono _ _ _ _ _ e4,e2,hs.drew,e3,λj hj=>?_,?_⟩;.rw[hrep,e1];have:=hcover j (by simpa using hj);simp only[Ky]at this;rcases this with(h|h)|h<;>simp[h]
 have hc:(Fs++Cs++Ts).length<=l.toArray.size:=by
  have hnd:(Fs++Cs++Ts).Nodup:=by
   rw[Hb];refine⟨Hb.2 ⟨hFn,hCn,λu hu v hv he=>?_⟩,hTn,λu hu v hv he=>?_⟩;.subst he;have:=(hF u hu).1.2;simp[hv]at this
   subst he;rcases GE.1 hu with h|h
   .have:=(hF u h).2;simp[hv]at this
   have:=(hC u h).2;simp[hv]at this
  have hlt:∀x∈Fs++Cs++Ts,x∈List.range l.toArray.size:=by
   intro x hx;rw[KE];simp only[GE]at hx;rcases hx with(h|h)|h
   .exact Hw (HM _) (Gz (hF x h).1.1)
   .exact Hw (HM _) (Gz (hC x h).1)
   exact Hw (HM _) (Gz (hT x h))
  exact ar _ _ hnd λx hx=>by simpa using hlt x hx
 have hl:pend.length=Fs.length:=by rw[<-e1];simp
 simp at hc;simp;omega
end
section
variable{c:Cx}{ops:Array Oper}{Q:Exit->Act->World->Prop}{R:Hp}{L:List Qj}{E:Env}{PX:List PanicEntry->World->Prop}
def tK{K:Act->World->Prop}(h:wpList P ops (Exit.then K (PE PX)) [o] a w)(hk:∀a' w',K a' w'->K' a' w'):
  if Region.wanted o (yielded ops a.tmps)then o.wp P a w K' (PE PX)else K' (a.put o.dst undef) w:=by
 unfold wpList at h;split at h
 .rename_i hw;rw[an hw];rcases h with h|h
  .unfold Oper.wp at*;generalize (execOp a.eval o).run P w=r at*;cases r with
   |ok n w'=>
    cases n<;>simp[Oper.upon,wpList,Exit.then]at h|- <;>first|exact hk _ _ h|exact h.elim|skip
    case enter f args=>
     refine h.mono λe w'' hh=>?_;cases e with
     |returned v=>exact hk _ _ hh
     |panicked ch=>exact hh
     |outgrown=>obtain⟨_,_,ch',e,_⟩:=hh;cases e
    case row row args=>exact h.mono λv w'' hh=>hk _ _ hh
   |halt x w'=>
    cases x<;>simp[Oper.upon,Exit.then]at h|-;exact h
  let⟨_,a',w',ch,e,_⟩:=h;cases e
 rename_i hw;rw[ac hw];exact hk _ _ h
def u5{K:Act->World->Prop}(h:o.upon P a K (PE PX) r)(hd:∀a' w',K a' w'->a'.defers=[]):
  o.upon P a (λa' w'=>(∃u,a'=a.put o.dst u)/\K a' w') (PE PX) r:=by
 cases r with
 |ok n w'=>
  cases n<;>simp[Oper.upon]at h|- <;>first|exact⟨⟨_,rfl⟩,h⟩|exact h.elim|skip
  case defer d=>have:=hd _ _ h;cases hdd:o.dst<;>simp[Act.put,hdd]at this
  case enter f args=>
   refine h.mono λe w'' hh=>?_;cases e with
   |returned v=>exact⟨⟨_,rfl⟩,hh⟩
   |panicked ch=>exact hh
   |outgrown=>obtain⟨_,_,ch',e,_⟩:=hh;cases e
  case row row args=>exact h.mono λv w'' hh=>⟨⟨_,rfl⟩,hh⟩
 |halt x w'=>cases x<;>simp[Oper.upon]at h|- <;>exact h
def YK(c:Cx)(R:Hp)(L:List Qj)(X:Env->Hp->List Qj->Prop)(a:Act)(w:World):Prop:=
 ∃E' R' G',R.le R'/\Fr c.n E' a/\Sat c.σ R' (L++G') w/\X E' R' G'
def QX{R1:Hp}{X:Env->Hp->List Qj->Prop}{G':List Qj}(hR:R.le R1)(hS:Sub M (L++G'))(h:X E R1 G'):RJ c ops (Exit.then (YK c R L X) Qx) [] E R1 M:=
 Qd λa w hf hs=>⟨E,R1,G',hR,hf,hs.sub hS,h⟩
def QW{X:Env->Hp->List Qj->Prop}(ho:ops[i]?=some o)
  (h:RJ c ops (Exit.then (YK c R L X) (PE PX)) [o] E R (L++G)):YJ c ops L PX X i E R G:=
 ⟨o,ho,λa w hf hs=>by
  have:=tK (h a w hf hs) (K':=YK c R L X) (λ_ _ h=>h)
  split
  .rename_i hw
   rw[an hw]at this
   refine JB ?_ (u5 this λa' w' ⟨E',R',G',_,h1,_⟩=>h1.dfs)
   rintro a' w' ⟨⟨u,rfl⟩,E',R',G',hle,h1,h2,h3⟩
   exact⟨u,E',R',G',hle,rfl,h1,h2,h3⟩
  .rename_i hw
   rw[ac hw]at this
   exact this⟩
def AY(c:Cx)(ops:Array Oper)(L:List Qj)(K:Env->Hp->List Qj->Prop)(PX:List PanicEntry->World->Prop)(n:Nat)(rem:List Nat)(E:Env)(R:Hp)(G:List Qj):List Nat->Prop
 |[]=>True
 |i::is=>YJ c ops L PX (XS c ops L K PX n (rem.erase i)) i E R G/\AY c ops L K PX n rem E R G is
def AY.spec{K:Env->Hp->List Qj->Prop}{n:Nat}{rem:List Nat}{G:List Qj}:∀{is:List Nat},AY c ops L K PX n rem E R G is->∀i∈is,YJ c ops L PX (XS c ops L K PX n (rem.erase i)) i E R G
 |[],_,i,h=>by cases h
 |j::is,h,i,hi=>by
  rcases Gn.1 hi with rfl|hi;.exact h.1
  exact AY.spec h.2 i hi
def Xi{K:Env->Hp->List Qj->Prop}{rem:List Nat}(fs:List Nat)(hf:(rem.filter λi=>kK ops rem i)=fs)(h:AY c ops L K PX n rem E R G fs):XS c ops L K PX (n+1) rem E R G:=
 λi hi hfi=>AY.spec h i (by rw[<-hf];exact IG.2 ⟨hi,hfi⟩)
end
section
variable{c:Cx}{l:List Oper}{Q:Exit->Act->World->Prop}{R:Hp}{L:List Qj}{E:Env}{PX:List PanicEntry->World->Prop}
def l7(Fs Cs Ts:List Nat)(G0:List Qj)(hpan:∀ch (a:Act) w,Fr c.n [] a->PX ch w->Q (.panic ch) a w)(hL:Sub L0 (L++G0))(hm:c.P.follows .mixedOrders=true)(hB:gS l.toArray Fs Cs Ts=true)(hr:zw l.toArray Ts=true)(ht:cX l Ts=some tl)
  (h:FJ c l.toArray R L (λE'=>XS c l.toArray L (λE R G=>RJ c l.toArray Q tl E R (L++G)) PX Cs.length Cs E' R G0) Fs E):CJ c (.region id l.toArray true) Q E R L0:=by
 have hB':=hB;simp only[gS,G6,Hm,HX,HZ,HR]at hB';let⟨⟨⟨⟨⟨⟨⟨⟨⟨⟨⟨⟨⟨⟨hlow,hcover⟩,hFn⟩,hCn⟩,hTn⟩,hself⟩,hF⟩,hC⟩,hT⟩,hpair⟩,hFs⟩,hCs⟩,hFC⟩,hFT⟩,hCT⟩:=hB';refine Ay (KK:=λE R G=>RJ c l.toArray Q tl E R (L++G)) Fs Cs Ts G0 hpan hL hm hB (λE R G h fuel listed a w hs hc hl hn hf hsat=>?_) h;exact lx hlow Ts fuel listed a w hr hTn (λj hj=>Hw (HM _) (Gz (hT j hj))) hs hc hl hn (di ht (h a w hf hsat))
def Zi{c:Cx}{ops:Array Oper}{R:Hp}{L:List Qj}{E:Env}{PX:List PanicEntry->World->Prop}{K:Env->Hp->List Qj->Prop}{rem:List Nat}(h:K E R G):XS c ops L K PX 0 rem E R G:=h
def oS:∀ch (a:Act) w,Fr c.n [] a->(λ_ _=>False:List PanicEntry->World->Prop) ch w->Q (.panic ch) a w:=λ_ _ _ _ h=>h.elim
end
def jq(g:Nat)(l:List Value)(e:TypeId)(fz:Nat×Nat):Qj:=λh=>h g=some (.cells ⟨l⟩ e fz)
section
variable{c:Cx}{ops:Array Oper}{Q:Exit->Act->World->Prop}{E:Env}{R:Hp}{L M:List Qj}{rest:List Oper}{d:Option Tmp}{ty:TypeId}{p:String}{af:Array Edge}{g:Option (Nat×Bool)}
def C4{x:Code}{e:TypeId}(f:Find (QN e sz v n xs) L M)(hn:0<n)
  (h:∀(g cap:Nat) (fz:Nat×Nat) (pre post:List Value),v=.slice (some ⟨g,List.length pre,none⟩) n cap->xs.length=n*sz->(∀o,o<(pre++(xs++post)).length->¬(fz.1<=o/\o<fz.2))->
   n<=cap->cap<=maxLen->cap*sz<=(xs++post).length->CJ c x Q E R (jq g (pre++(xs++post)) e fz::M)):CJ c x Q E R L:=λa w ha hs=>by
 let⟨hl,hc⟩:=(hs.find f).slc_cases;rcases hc with⟨_,h0,_⟩|⟨g,cap,fz,pre,post,hv,hf,hnc,hcm,hcs,hsg⟩
 .omega
 exact h g cap fz pre post hv hl hf hnc hcm hcs a w ha hsg
def vE{e:TypeId}{g:Nat}{pre post:List Value}(hl:xs.length=n*sz)(hf:∀o,o<(pre++(xs++post)).length->¬(fz.1<=o/\o<fz.2))(hn:n<=cap)(hm:cap<=maxLen)(hc:cap*sz<=(xs++post).length)
  (h:Hp) (hh:jq g (pre++(xs++post)) e fz h):QN e sz (.slice (some ⟨g,pre.length,none⟩) n cap) n xs h:=⟨hl,.inr ⟨g,cap,fz,pre,post,rfl,hh,hf,hn,hm,hc⟩⟩
def Sat.row_cell{e:TypeId}(s:Sat σ R (jq b l e fz::L) w)(o:Nat):w.cell? ⟨b,o,none⟩=l[o]?:=by
 have:=ZR s;simp[World.cell?,this]
def Sat.row_set{e:TypeId}{o:Nat}(s:Sat σ R (jq b l e fz::L) w)(hl:o+news.length<=l.length):
  Sat σ R (jq b (l.take o++news++l.drop (o+news.length)) e fz::L) (w.setCells b o news):=by
 have hg:=ZR s;have e0:l=l.take o++l.drop o:=(HG o l).symm;rw[e0]at hg;have hlen:(l.take o).length=o:=by simp;omega
 have h3:=zQ news (l.take o) (l.drop o) w hg (by simp;omega);rw[hlen]at h3;let⟨o1,o2,o3⟩:=zO (g:=b) news o w;refine Sat.put s o1 o2 o3 (λk hk _=>zn news _ w k hk) ?_;rw[h3];simp
def fU{P:Program}{e:TypeId}{o:Nat}(s:Sat σ R (jq b l e fz::L) w)(hf:∀o,o<l.length->¬(fz.1<=o/\o<fz.2))(hl:o+news.length<=l.length):
  (∀j,j<news.length->(w.cell? ⟨b,o+j,none⟩).isSome=true)/\(∀j,j<news.length->w.frozen? ⟨b,o+j,none⟩=false):=by
 have hg:=ZR s;refine⟨λj hj=>?_,λj hj=>?_⟩;.rw[s.row_cell];simp;omega
 have:=hf (o+j) (by omega);let⟨lo,hi⟩:=fz;simp[World.frozen?,hg];omega
def BU{tx e' e:TypeId}{o:Nat}(hk:c.P.underlying tx=some (.slice e'))(f:Find (jq b l e fz) L M)(hl:news.length=m*sz)(hc:∀(j:Nat) u,news[j]?=some u->l[o+j]?=some u)(h1:∀u∈news,u.oneCell'=true):
  fq c R L tx sz (.slice (some ⟨b,o,none⟩) m k) m news:=λw hs=>
 KC w hk _ _ _ _ hl (λj u hj=>by rw[YH,(hs.find f).row_cell];exact hc j u hj) h1
def lz{dd:Nat}{t tx e e0:TypeId}{o:Nat}(hT:AppT c.P t e sz by_)
  (hw:Wn c ops E ⟨some dd,.call {callee:=.builtin .append,args:= #[x,y],argTypes:= #[t,tx]},ty,p,af,g⟩ true) (hd:Nat.blt dd c.n=true)
  (e1:ev E x=some (.slice (some ⟨b,o,none⟩) n cap)) (e2:ev E y=some u) (f:Find (jq b l e0 fz) L M) (hf:∀o,o<l.length->¬(fz.1<=o/\o<fz.2)) (hsrc:fq c R L tx sz u m news) (hroom:n+m<=cap) (hl:o+n*sz+m*sz<=l.length)
  (hys:l.take (o+n*sz)++news++l.drop (o+n*sz+m*sz)=ys)
  (h:RJ c ops Q rest ((dd,.slice (some ⟨b,o,none⟩) (n+m) cap)::E) R (jq b ys e0 fz::M)):RJ c ops Q (⟨some dd,.call {callee:=.builtin .append,args:= #[x,y],argTypes:= #[t,tx]},ty,p,af,g⟩::rest) E R L:=by
 refine vL hw rfl hd (λa w hf' hs=>?_) h;obtain⟨ht,i,z,hi,hz,rfl,rfl,hzs⟩:=hT;have hsr:=hsrc w hs;have hnl:=hsr.newsLen;have hs':=hs.find f;obtain⟨c1,c2⟩:=fU (P:=c.P) (o:=o+n*i.size) (news:=news) hs' hf (by omega);have r1:=run_append_room_src w t tx ty e i ht hi b o n cap u m news hsr hroom (by simpa using c1) (by simpa using c2);refine⟨w.setCells b (o+n*i.size) news,?_,?_⟩;.simp[execOp,resolve,invoke,builtin,hf'.ev e1,hf'.ev e2,r1]
 have:=hs'.row_set (news:=news) (o:=o+n*i.size) (by omega);rw[hnl]at this;rw[<-hys];exact this
def xE{t e e0:TypeId}{o:Nat}{z:Value}(hT:c.P.underlying t=some (.slice e))(hz:∀w,(zeroValue e).run c.P w=.ok z w)(hzc:(Builtin.zeroCells z.cells n).toList=news)(h1:∀u∈news,u.oneCell'=true)(hn:n≠0)
  (hw:Wn c ops E ⟨none,.call {callee:=.builtin .clear,args:= #[x],argTypes:= #[t]},ty,p,af,g⟩ true)
  (e1:ev E x=some (.slice (some ⟨b,o,none⟩) n k)) (f:Find (jq b l e0 fz) L M) (hf:∀o,o<l.length->¬(fz.1<=o/\o<fz.2)) (hl:o+news.length<=l.length)
  (hys:l.take o++news++l.drop (o+news.length)=ys) (h:RJ c ops Q rest E R (jq b ys e0 fz::M)):RJ c ops Q (⟨none,.call {callee:=.builtin .clear,args:= #[x],argTypes:= #[t]},ty,p,af,g⟩::rest) E R L:=by
 intro a w hf' hs;unfold wpList;rw[an (hw a hf')];refine .inl ?_;have hs':=hs.find f;let⟨c1,c2⟩:=fU (P:=c.P) (o:=o) (news:=news) hs' hf hl;have hst:=run_storeCells_cells (P:=c.P) b o news 0 w (by simpa using c1) (by simpa using c2) h1;obtain⟨m,rfl⟩:∃m,n=m+1:=⟨n-1,by omega⟩;have r1:(Builtin.clear_ #[t] ty #[.slice (some ⟨b,o,none⟩) (m+1) k]).run c.P w=.ok (.tuple #[]) (w.setCells b o news):=by
  simp[Builtin.clear_,run_underlying hT,hz,hzc,hst]
 have r:(execOp a.eval ⟨none,.call {callee:=.builtin .clear,args:= #[x],argTypes:= #[t]},ty,p,af,g⟩).run c.P w=.ok (.value (.tuple #[])) (w.setCells b o news):=by
  simp[execOp,resolve,invoke,builtin,hf'.ev e1,r1]
 unfold Oper.wp;rw[r];exact h _ _ hf' (hys▸hs'.row_set hl)
def rk{lo hi mx:Operand}{t e:TypeId}{q:Option Addr}{l:Nat}{i1 i2 i3:IntKind}(hT:c.P.underlying t=some (.slice e))(hS:∀w,(sizeOf e).run c.P w=.ok sz w)
  (e1:ev E x=some (.slice q n k)) (hl:ev E lo=some (.int i1 (l:Int))) (hh:ev E hi=some (.int i2 (h:Int))) (hm:ev E mx=some (.int i3 (m:Int))) (hb:l<=h/\h<=m/\m<=k):
  Yld c E R L ⟨d,.slice t x (some lo) (some hi) (some mx),ty,p,af,g⟩ (.slice (Ze q l m sz) (h-l) (m-l)):=
 λa w hf _=>by
  have bnd:∀(ik:IntKind) (m y:Nat) (code:BoundsCode),m<=y->(Instr.sliceBound (.int ik (m:Int)) y code).run c.P w=.ok m w:=λik m y code hm=>by
   simp[Instr.sliceBound,asIntOf,hm]
  have r:(Instr.sliceBounds true n k (some (a.eval lo)) (some (a.eval hi)) (some (a.eval mx))).run c.P w=.ok (l,h,m) w:=by
   unfold Instr.sliceBounds
   simp[hf.ev hl,hf.ev hh,hf.ev hm,bnd _ _ _ _ hb.1,bnd _ _ _ _ hb.2.1,bnd _ _ _ _ hb.2.2]
  have r2:(Instr.sliceAt t (.slice q n k) (some (a.eval lo)) (some (a.eval hi)) (some (a.eval mx))).run c.P w=.ok (.slice (Ze q l m sz) (h-l) (m-l)) w:=by
   unfold Instr.sliceAt
   unfold Instr.slice
   simp[Iq,run_underlying hT,Iv,r,hS,IZ]
   rfl
  simp[execOp,hf.ev e1,r2,Oper.quietUpon]
end
structure Elt (α:Type) where
 P:Hp->α->List Value->Prop
 sz:Nat
 mono:∀{R R':Hp} {x:α} {cs:List Value},R.le R'->P R x cs->P R' x cs
 len:∀{R:Hp} {x:α} {cs:List Value},P R x cs->cs.length=sz
 one:∀{R:Hp} {x:α} {cs:List Value},P R x cs->∀u∈cs,u.oneCell'=true
section
variable{α:Type}(T:Elt α){R R':Hp}{l:List α}{css:List (List Value)}{v:Value}
def Els(R:Hp)(l:List α)(css:List (List Value)):Prop:=css.length=l.length/\∀(i:Nat) (x:α) (cs:List Value),l[i]?=some x->css[i]?=some cs->T.P R x cs
def FrS(R:Hp)(v:Value)(n:Nat)(xs:List Value):Prop:=∃q cap,v=.slice q n cap/\n<=cap/\cap<=maxLen/\(n=0\/∃b off,q=some ⟨b,off,none⟩/\∀(j:Nat) (u:Value),xs[j]?=some u->Hp.cell R ⟨b,off+j,none⟩=some u)
def FrX(R:Hp)(l:List α)(v:Value):Prop:=∃css,Els T R l css/\FrS R v l.length css.flatten
variable{T}
def FrS.mono(hR:R.le R')(h:FrS R v n xs):FrS R' v n xs:=by
 let⟨q,cap,e,h1,h2,h3⟩:=h;refine⟨q,cap,e,h1,h2,?_⟩;rcases h3 with h|⟨b,off,hq,hc⟩
 .exact .inl h
 exact .inr ⟨b,off,hq,λj u hj=>YD hR (hc j u hj)⟩
def FrozenS.fr(h:FrozenS R v n xs):FrS R v n xs:=by
 rcases h with⟨rfl,rfl⟩|⟨b,off,cap,rfl,h1,h2,h3⟩;.exact⟨none,0,rfl,Gl _,by simp[maxLen],.inl rfl⟩
 exact⟨_,cap,rfl,h1,h2,.inr ⟨b,off,rfl,h3⟩⟩
def Els.mono(hR:R.le R')(h:Els T R l css):Els T R' l css:=⟨h.1,λi x cs h1 h2=>T.mono hR (h.2 i x cs h1 h2)⟩
def FrX.mono(hR:R.le R')(h:FrX T R l v):FrX T R' l v:=by
 let⟨css,h1,h2⟩:=h;exact⟨css,h1.mono hR,h2.mono hR⟩
def Els.nil:Els T R [] []:=⟨rfl,λi x cs h _=>by simp at h⟩
def FrX.nil:FrX T R [] (.slice none 0 0):=⟨[],Els.nil,none,0,rfl,Gl _,by simp[maxLen],.inl rfl⟩
def Els.len(h:Els T R l css):∀c∈css,c.length=T.sz:=λc hc=>by
 obtain⟨i,hi,rfl⟩:=Ij hc;exact T.len (h.2 i (l[i]'(by rw[<-h.1];exact hi)) _ (by simp) (by simp[hi]))
def Els.one(h:Els T R l css):∀u∈css.flatten,u.oneCell'=true:=λu hu=>by
 obtain⟨c,hc,hu⟩:=Lq.1 hu;obtain⟨i,hi,rfl⟩:=Ij hc;exact T.one (h.2 i (l[i]'(by rw[<-h.1];exact hi)) _ (by simp) (by simp[hi])) u hu
def iZ{n:Nat}:∀{css:List (List Value)},(∀c∈css,c.length=n)->css.flatten.length=css.length*n
 |[],_=>by simp
 |c::css,h=>by rw[Iw,Gm,iZ (λx hx=>h x (by simp[hx])),h c (by simp),GD,G4];omega
def i4{n:Nat}:∀{css:List (List Value)} {i:Nat} {cs:List Value} {j:Nat} {u:Value},(∀c∈css,c.length=n)->css[i]?=some cs->cs[j]?=some u->css.flatten[i*n+j]?=some u
 |[],i,cs,j,u,_,h,_=>by simp at h
 |c::css,0,cs,j,u,h4,h,hj=>by
  simp at h;subst h
  have:=(Gj.1 hj).1
  simp[Iw,Nat.zero_mul,H4]
  rw[GG this,hj]
 |c::css,i+1,cs,j,u,h4,h,hj=>by
  have hc:=h4 c (by simp)
  simp[Iw]
  rw[GY (by rw[G4];omega),hc,show(i+1)*n+j-n=i*n+j by rw[G4];omega]
  exact i4 (λx hx=>h4 x (by simp[hx])) (by simpa using h) hj
def FC{css:List (List Value)}(h4:∀c∈css,c.length=n)(h:css[i]?=some cs):(css.flatten.drop (i*n)).take n=cs:=by
 have hl:=h4 cs (Gv h);have hi:=(Gj.1 h).1;have hmul:(i+1)*n<=css.length*n:=Hv _ hi;apply Ir;intro j;rw[HS];split
 .rename_i hj;rw[HF];have e:cs[j]?=some (cs[j]'(by omega)):=by simp
  rw[e,i4 h4 h e]
 rename_i hj;rw[Ho (by omega)]
def uC{n:Nat}:∀{css:List (List Value)} (i:Nat),(∀c∈css,c.length=n)->css.flatten.take (i*n)=(css.take i).flatten
 |[],i,_=>by simp
 |c::css,0,_=>by simp
 |c::css,i+1,h=>by
  have hc:=h c (by simp);rw[Iw,Lo,hc,Gx (by rw[hc,G4];omega),show(i+1)*n-n=i*n by rw[G4];omega,uC i (λx hx=>h x (by simp[hx]))];simp
def uE{n:Nat}:∀{css:List (List Value)} (i:Nat),(∀c∈css,c.length=n)->css.flatten.drop (i*n)=(css.drop i).flatten
 |[],i,_=>by simp
 |c::css,0,_=>by simp
 |c::css,i+1,h=>by
  have hc:=h c (by simp);rw[Iw,List.drop_append,hc,IM (by rw[hc,G4];omega),show(i+1)*n-n=i*n by rw[G4];omega,uE i (λx hx=>h x (by simp[hx]))];simp
def Els.flat(h:Els T R l css):css.flatten.length=l.length*T.sz:=by rw[iZ h.len,h.1]
def Els.get(h:Els T R l css){x:α}(hx:l[i]?=some x):∃cs,css[i]?=some cs/\T.P R x cs/\(css.flatten.drop (i*T.sz)).take T.sz=cs:=by
 have hi:=(Gj.1 hx).1;have e:css[i]?=some (css[i]'(by rw[h.1];exact hi)):=by simp[h.1,hi]
 exact⟨_,e,h.2 i x _ hx e,FC h.len e⟩
def Els.snoc(k:Els T R l css){y:α}{cy:List Value}(h:T.P R y cy):Els T R (l++[y]) (css++[cy]):=by
 refine⟨by simp[k.1],λi x cs h1 h2=>?_⟩;rcases HK i l.length with hi|hi
 .rw[GG hi]at h1;rw[GG (by rw[k.1];exact hi)]at h2;exact k.2 i x cs h1 h2
 rw[GY hi]at h1;rw[GY (by rw[k.1];exact hi),k.1]at h2;cases hd:i-l.length with
 |zero=>rw[hd]at h1 h2;simp at h1 h2;subst h1 h2;exact h
 |succ n=>rw[hd]at h1;simp at h1
def Els.app{l':List α}{css':List (List Value)}(k:Els T R l css)(h:Els T R l' css'):Els T R (l++l') (css++css'):=by
 refine⟨by simp[k.1,h.1],λi x cs h1 h2=>?_⟩;rcases HK i l.length with hi|hi
 .rw[GG hi]at h1;rw[GG (by rw[k.1];exact hi)]at h2;exact k.2 i x cs h1 h2
 rw[GY hi]at h1;rw[GY (by rw[k.1];exact hi),k.1]at h2;exact h.2 _ x cs h1 h2
def Els.take(k:Els T R l css)(n:Nat):Els T R (l.take n) (css.take n):=by
 refine⟨by simp[k.1],λi x cs h1 h2=>?_⟩;rw[HS]at h1 h2;split at h1;.rename_i hi;rw[an hi]at h2;exact k.2 i x cs h1 h2
 cases h1
def Els.drop(k:Els T R l css)(n:Nat):Els T R (l.drop n) (css.drop n):=by
 refine⟨by simp[k.1],λi x cs h1 h2=>?_⟩;rw[HF]at h1 h2;exact k.2 _ x cs h1 h2
def Els.single{y:α}{cy:List Value}(h:T.P R y cy):Els T R [y] [cy]:=by have:=Els.snoc (Els.nil (T:=T)) h;simpa using this
def FrX.shape(h:FrX T R l v):∃q cap,v=.slice q l.length cap/\l.length<=cap/\cap<=maxLen:=by
 let⟨css,_,q,cap,e,h1,h2,_⟩:=h;exact⟨q,cap,e,h1,h2⟩
def FrX.one(h:FrX T R l v):v.oneCell'=true:=by obtain⟨q,cap,rfl,_⟩:=h.shape;rfl
def FrX.at(h:FrX T R l v){x:α}(hx:l[i]?=some x):∃b off cap cs,v=.slice (some ⟨b,off,none⟩) l.length cap/\T.P R x cs/\cs.length=T.sz/\∀(j:Nat) (u:Value),cs[j]?=some u->Hp.cell R ⟨b,off+i*T.sz+j,none⟩=some u:=by
 let⟨css,he,q,cap,e,h1,h2,h3⟩:=h;have hi:=(Gj.1 hx).1;let⟨cs,e1,e2,_⟩:=he.get hx;rcases h3 with h0|⟨b,off,rfl,hc⟩
 .omega
 exact⟨b,off,cap,cs,e,e2,T.len e2,λj u hj=>by rw[HQ];exact hc _ u (i4 he.len e1 hj)⟩
def FrX.src{R:Hp}{tx e':TypeId}{l:List α}{v:Value}{css:List (List Value)}(hk:c.P.underlying tx=some (.slice e'))(he:Els T R l css)(h:FrS R v l.length css.flatten):fq c R L tx T.sz v l.length css.flatten:=by
 obtain⟨q,cap,rfl,h1,h2,h3⟩:=h;rcases h3 with h0|⟨b,off,rfl,hc⟩
 .have hl:l=[]:=Hk h0;subst hl;have:css=[]:=Hk he.1;subst this;intro w hs;cases q with
  |none=>exact Src.ofNil w hk cap
  |some a=>exact KC w hk a 0 cap [] (by simp) (λj u hj=>by simp at hj) (by simp)
 exact DG hk hc he.flat he.one
def FrozenS.frx(h:FrozenS R v l.length css.flatten)(he:Els T R l css):FrX T R l v:=⟨css,he,h.fr⟩
def xy{β:Type}{r:jL β}(f:β->α)(hP:∀c x,c.length=T.sz->r R c x->T.P R (f x) c){ys:List β}(h:lp T.sz r R [v] ys):FrX T R (ys.map f) v:=by
 obtain⟨q,cap,e,h1,h2,h3⟩:=h;have e':v=.slice q ys.length cap:=by simpa using e
 rcases h3 with rfl|⟨b,off,rfl,hc⟩;.exact⟨[],Els.nil,q,cap,e',h1,h2,.inl rfl⟩
 obtain⟨css,hl,hcs⟩:=lK (n:=ys.length) (P:=λi (c:List Value)=>∃h:i<ys.length,c.length=T.sz/\(∀(j:Nat) u,c[j]?=some u->Hp.cell R ⟨b,off+i*T.sz+j,none⟩=some u)/\r R c ys[i]) (λi hi=>by
  obtain⟨c,q1,q2,q3⟩:=hc i hi;exact⟨c,hi,q1,q2,q3⟩)
 have hlen:∀c∈css,c.length=T.sz:=λc hc=>by
  obtain⟨i,hi,rfl⟩:=Ij hc;exact(hcs i hi).2.1
 refine⟨css,⟨by simp[hl],λi x cs e1 e2=>?_⟩,some ⟨b,off,none⟩,cap,by simpa using e',by simpa using h1,h2,.inr ⟨b,off,rfl,λj u hj=>?_⟩⟩
 .have hi:=(Gj.1 e2).1;obtain⟨hi',q1,q2,q3⟩:=hcs i hi;have e3:css[i]=cs:=by rw[b7 hi]at e2;simpa using e2
  rw[HD,b7 hi']at e1;simp at e1;rw[<-e1,<-e3];exact hP _ _ q1 q3
 have hf:=iZ hlen;have hj2:=(Gj.1 hj).1;rw[hf]at hj2;have hpos:0<T.sz:=by
  rcases Js T.sz with h0|h0;.rw[h0]at hj2;omega
  exact h0
 have hdiv:j/T.sz<css.length:=(Mq hpos).2 hj2;have hmod:j%T.sz<T.sz:=M1 _ hpos;obtain⟨hi',q1,q2,q3⟩:=hcs (j/T.sz) hdiv;have e4:j/T.sz*T.sz+j%T.sz=j:=by rw[I0];exact Nat.div_add_mod j T.sz
 have g2:css[j/T.sz][j%T.sz]?=some (css[j/T.sz][j%T.sz]'(by omega)):=by simp
 have:=i4 (n:=T.sz) hlen (b7 hdiv) g2;rw[e4]at this;rw[this]at hj;have q4:=q2 (j%T.sz) _ g2;rw[HQ,e4]at q4;rw[q4];exact hj
end
section
variable{c:Cx}{ops:Array Oper}{Q:Exit->Act->World->Prop}{E:Env}{R:Hp}{L M:List Qj}{rest:List Oper}{d:Option Tmp}{ty:TypeId}{p:String}{af:Array Edge}{g:Option (Nat×Bool)}
def rl{t t' e:TypeId}{a:Addr}(hT:c.P.underlying t=some (.pointer e))(hj:(c.P.info? e).isSome=true)(e1:ev E x=some (.pointer (some a)))(e2:ev E y=some (.pointer (some a))):
  Yld c E R L ⟨d,.binOp .neq t x y t',ty,p,af,g⟩ (.bool false):=
 λ_ w hf _=>by
  let⟨j,hj⟩:=Jm.1 hj
  simp[execOp,hf.ev e1,hf.ev e2,eqGuard,Lib.run_neq_ptr_same w a hT hj,Oper.quietUpon]
def gG{t t' e:TypeId}{q:Option Addr}(hT:c.P.underlying t=some (.slice e))(e1:ev E x=some (.slice q n k))(e2:ev E y=some (.slice none 0 0)):
  Yld c E R L ⟨d,.binOp .eql t x y t',ty,p,af,g⟩ (.bool q.isNone):=
 λ_ w hf _=>by
  have r:=run_equal_slice_nil (P:=c.P) w t e q n k hT
  simp[execOp,hf.ev e1,hf.ev e2,eqGuard,binOp,r,Oper.quietUpon]
def m9{e:TypeId}(f:Find (QA b l e) L M)(hs:Sat σ R L w):w.shape? b=some (e,l.length):=by
 have:=(hs.find f).blk_heap;simp[World.shape?,this]
def ri{s t pt e:TypeId}(hS:c.P.underlying s=some (.pointer pt))(hT:c.P.underlying t=some .unsafePointer)(hz:(c.P.info? pt).map (λi=>decide (i.size=0))=some false)
  (e1:ev E x=some (.pointer (some ⟨b,off,none⟩))) (f:Find (QA b l e) L M) (ho:off<l.length):Yld c E R L ⟨d,.convert s t x,ty,p,af,g⟩ (.pointer (some ⟨b,off,none⟩)):=
 λ_ w hf hs=>by
  let⟨j,hj,hz0⟩:=I6.1 hz
  have r:=Lib.run_to_unsafe (P:=c.P) w ⟨b,off,none⟩ hS hT hj (by simpa using hz0) (m9 f hs) ho
  simp[execOp,hf.ev e1,r,Oper.quietUpon]
def ng{s t u e:TypeId}(hS:c.P.underlying s=some .unsafePointer)(hT:c.P.underlying t=some (.pointer u))(hj:(c.P.info? u).isSome=true)
  (e1:ev E x=some (.pointer (some ⟨b,off,none⟩))) (f:Find (QA b l e) L M) (hn:l.length=n) (hl:liesAt c.P c.P.depth e (n/c.P.cellsOf e) off u 1=true):Yld c E R L ⟨d,.convert s t x,ty,p,af,g⟩ (.pointer (some ⟨b,off,none⟩)):=
 λ_ w hf hs=>by
  subst hn
  let⟨j,hj⟩:=Jm.1 hj
  have r:=Lib.run_from_unsafe (P:=c.P) w ⟨b,off,none⟩ hS hT hj (m9 f hs) hl
  simp[execOp,hf.ev e1,r,Oper.quietUpon]
def tA(hf:c.P.funcs[f]?=some fn)(h1:(fn.name== "runtime.NumGoroutine")=false)(h2:fn.body.isNone=true)(h3:Extern.findNext fn=none)(h4:Extern.find fn=some Extern.AbiNoEscape.same)
  (e1:ev E x=some v):Yld c E R L ⟨d,.call {callee:=.value (.func f),args:=⟨[x]⟩,argTypes:=ts},ty,p,af,g⟩ v:=
 xi (vs:=[v]) (by simp[evs,e1]) λw _=>by
  rw[run_callFunc_extern hf h1 h2 h3 h4]
  rfl
def E9{a:Addr}(e1:ev E x=some (.slice (some a) n k))(hk:k≠0):Yld c E R L ⟨d,.call {callee:=.builtin .unsafeSliceData,args:= #[x],argTypes:=ts},ty,p,af,g⟩ (.pointer (some a)):=
 λ_ w hf _=>by
  have r:=Lib.run_unsafeSliceData_row (P:=c.P) w ts ty a n k hk;simp[execOp,resolve,invoke,builtin,hf.ev e1,r,Oper.quietUpon]
def kj{d:Nat}{pt it e:TypeId}(hw:Wn c ops E ⟨some d,.call {callee:=.builtin .unsafeString,args:= #[x,y],argTypes:= #[pt,it]},ty,p,af,g⟩ true)(hn:Nat.blt d c.n=true)
  (hP:c.P.underlying pt=some (.pointer e)) (hC:c.P.cellsOf e=1) (e1:ev E x=some (.pointer (some ⟨b,0,none⟩))) (e2:ev E y=some (.int .i64 (n:Int))) (f:Find (QN e 1 (.slice (some ⟨b,0,none⟩) n cap) n (XU bs)) L M) (h0:0<n) (hm:n<=9223372036854775807)
  (h:RJ c ops Q rest ((d,.string (Qs bs))::E) R M):RJ c ops Q (⟨some d,.call {callee:=.builtin .unsafeString,args:= #[x,y],argTypes:= #[pt,it]},ty,p,af,g⟩::rest) E R L:=by
 refine vL (v:=.string (Qs bs)) (L':=M) hw rfl hn (λa w hf hs=>?_) h;obtain⟨hl,hc⟩:=(hs.find f).slc_cases;rw[qQ]at hl;rcases hc with⟨h1,_,_⟩|⟨g',cap',fz,pre,post,h1,h2,h3,h4,h5,hs2⟩
 .cases h1
 simp only[Value.slice.injEq,Hi,KQ,true_and]at h1;obtain⟨⟨rfl,hp0,-⟩,rfl⟩:=h1;have hpre:pre=[]:=by cases pre with|nil=>rfl|cons _ _=>simp at hp0
 subst hpre;have hg:=ZR hs2;have hbn:bs.length=n:=by omega
 have hsh:w.shape? b=some (e,([]++(XU bs++post)).length):=by simp[World.shape?,hg]
 have r:=Lib.run_unsafeString_row (P:=c.P) w pt it ty e hP hC b _ hsh bs (by rintro rfl;simp at hbn;omega) (by simp[qQ]) (by omega) (λj u hj=>by
  have hx:(XU bs)[j]?=some (.int .u8 (u.toNat:Int)):=by simp[XU,hj]
  have:=row_cell (pre:=[]) hg hx;rw[YH];simpa using this)
 rw[hbn]at r;refine⟨w.freeze ⟨b,0,none⟩ n,?_,?_⟩;.simp[execOp,resolve,invoke,builtin,hf.ev e1,hf.ev e2,r]
 obtain⟨lo,hi⟩:=fz;have hput:Sat c.σ R ((λh=>h b=some (.cells ⟨[]++(XU bs++post)⟩ e (if lo==hi then(0,0+n)else(min lo 0,max hi (0+n)))))::M) (w.freeze ⟨b,0,none⟩ n):=by
  refine Sat.put hs2 ?_ ?_ ?_ (λk hk _=>?_) ?_;.unfold World.freeze;split<;>rfl
  .unfold World.freeze;split<;>rfl
  .unfold World.freeze;split<;>rfl
  .unfold World.freeze;split;.rfl
   simp only[Jb];rw[ac (Mk hk)]
  unfold World.freeze;rw[ac (by omega)];simp only[Jb,hg];simp
 exact hput.sub (.drop (.refl _))
end
def Sat.shrink(hR:R.le R')(s:Sat σ R' L w):Sat σ R L w:=by
 let⟨g,a,b,c⟩:=s.own;refine⟨s.os,s.tape,s.output,λb o h=>s.ro b o (hR b o h),g,a,λx=>?_,c⟩;rcases b x with h|h
 .exact .inl h
 refine .inr ?_;cases hx:R x with
 |none=>rfl
 |some o=>rw[hR x o hx]at h;cases h
def Tri.q2{args:List Value}(h:Tri P f args R L (λu _ L'=>u=v/\L'=L)):QTri P f args R L v:=
 λσ F w hs=>(h σ F w hs).mono λe w' ⟨R',L',hR,hw,hp⟩=>by
  cases e with
  |returned u=>obtain⟨rfl,rfl⟩:=hp;exact⟨rfl,hw.shrink hR⟩
  |panicked ch=>exact hp.elim
  |outgrown=>exact hp.elim
def two(h:cs.length=2):∃a b,cs=[a,b]:=by
 match cs,h with
 |[a,b],_=>exact⟨a,b,rfl⟩
def Sub.tailApp:∀(M F:List Qj),Sub (M++F) F
 |[],F=>.refl F
 |A::M,F=>.drop (Sub.tailApp M F)
def zA(M F:List Qj):Sub (M++F) F:=Sub.tailApp M F
section
variable{c:Cx}{ops:Array Oper}{Q:Exit->Act->World->Prop}{rest:List Oper}{E:Env}{R:Hp}{L:List Qj}{d:Option Tmp}{ty:TypeId}{p:String}{af:Array Edge}{g:Option (Nat×Bool)}
def aD{t et:TypeId}(hT:yz c.P t n)(hn:vs.length=n)
  (hw:Wn c ops E ⟨none,.store t x y,ty,p,af,g⟩ true) (e1:ev E x=some (.pointer (some ⟨b,0,none⟩))) (e2:ev E y=some (.agg ⟨vs⟩)) (hv:∀v∈vs,v.oneCell'=true)
  (f:Find (QA b l et) L M) (hl:l.length=n) (h:RJ c ops Q rest E R (QA b vs et::M)):RJ c ops Q (⟨none,.store t x y,ty,p,af,g⟩::rest) E R L:=
 Qr hT hn hw e1 e2 hv f (by omega) (by simp;omega) h
def ie{t et:TypeId}(hT:yz c.P t n)(hn:vs.length=n)(e:ev E x=some (.pointer (some ⟨b,0,none⟩)))
  (f:Find (QA b vs et) L M):Yld c E R L ⟨d,.load t x,ty,p,af,g⟩ (.agg ⟨vs⟩):=
 ic hT e f (by rw[JC,Gx (by omega)]) hn
end
def cA{α:Type}{a:α}{l m:List α}:a::l++m=a::(l++m):=rfl
def nA{α:Type}{l:List α}:[]++l=l:=rfl
def cB{α:Type}:(∀(a:α) (l m:List α),a::l++m=a::(l++m))/\∀l:List α,[]++l=l:=⟨λ_ _ _=>rfl,λ_=>rfl⟩
def cC{α:Type}:(∀(a:α) (l m:List α),a::l++m=a::(l++m))/\(∀l:List α,[]++l=l)/\∀l:List α,l++[]=l:=⟨λ_ _ _=>rfl,λ_=>rfl,HY⟩
def dx:(∀(p:Prop) [Decidable p],(decide p=true)=p)/\(∀(p:Prop) [Decidable p],(decide p=false)=¬p)/\(∀b:Bool,((!b)=true)=(b=false))/\(∀b:Bool,((!b)=false)=(b=true))/\((true=false)=False)/\(false=true)=False:=⟨λ_ _=>HR,λ_ _=>propext decide_eq_false_iff_not,HX,M4,IA,GP⟩
section
variable{c:Cx}{ops:Array Oper}{o:Oper}{Q:Exit->Act->World->Prop}{E:Env}{R:Hp}{L M:List Qj}{rest:List Oper}{d:Option Tmp}{ty:TypeId}{p:String}{af:Array Edge}{g:Option (Nat×Bool)}{v:Value}
def Pa{d:Nat}{k:Op}(y:Yld c E R L ⟨some d,k,ty,p,af,none⟩ v)(h:RJ c ops Q rest ((d,v)::E) R L)(hn:Nat.blt d c.n=true:=by exact rfl):RJ c ops Q (⟨some d,k,ty,p,af,none⟩::rest) E R L:=DR rfl rfl hn y h
def Pb{d:Nat}{k:Op}(y:Yld c E R L ⟨some d,k,ty,p,af,g⟩ v)(h:RJ c ops Q rest ((d,v)::E) R L)(hw:Wn c ops E ⟨some d,k,ty,p,af,g⟩ true:=by exact cP rfl rfl rfl rfl)(hn:Nat.blt d c.n=true:=by exact rfl):RJ c ops Q (⟨some d,k,ty,p,af,g⟩::rest) E R L:=vK hw rfl hn y h
def Pk{d:Nat}{k:Op}(h:RJ c ops Q rest ((d,undef)::E) R L)(hw:Wn c ops E ⟨some d,k,ty,p,af,g⟩ false:=by exact AK rfl rfl rfl rfl rfl)(hn:Nat.blt d c.n=true:=by exact rfl):RJ c ops Q (⟨some d,k,ty,p,af,g⟩::rest) E R L:=Xp hw rfl hn h
def Wa{l:List Oper}{d:Nat}{o:Oper}(ho:zY l i=some o)(y:∀R',R.le R'->∀G,Yld c E R' (L++G) o v)(h:FJ c l.toArray R L K is ((d,v)::E))(hd:o.dst=some d:=by exact rfl)(hn:Nat.blt d c.n=true:=by exact rfl)(hw:Wn c l.toArray E o true:=by exact Qo rfl):FJ c l.toArray R L K (i::is) E:=kJ ho hd hn hw y h
def Wb{l:List Oper}{d:Nat}{o:Oper}(ho:zY l i=some o)(y:∀R',R.le R'->∀G,Yld c E R' (L++G) o v)(h:FJ c l.toArray R L K is ((d,v)::E))(hd:o.dst=some d:=by exact rfl)(hn:Nat.blt d c.n=true:=by exact rfl)(hw:Wn c l.toArray E o true:=by exact cP rfl rfl rfl rfl):FJ c l.toArray R L K (i::is) E:=kJ ho hd hn hw y h
def Wc{l:List Oper}{d:Nat}{o:Oper}(ho:zY l i=some o)(y:∀{R':Hp} {_:R.le R'} {G:List Qj},Yld c E R' (L++G) o v)(h:FJ c l.toArray R L K is ((d,v)::E))(hd:o.dst=some d:=by exact rfl)(hn:Nat.blt d c.n=true:=by exact rfl)(hw:Wn c l.toArray E o true:=by exact Qo rfl):FJ c l.toArray R L K (i::is) E:=kJ ho hd hn hw (λR' hr G'=> @y R' hr G') h
def Qa{K:Act->Prop}{d:Nat}(y:Yld c E R L o v)(h:QJ c ops R L K rest ((d,v)::E))(hw:Wn c ops E o true:=by exact Qo rfl)(hd:o.dst=some d:=by exact rfl)(hn:Nat.blt d c.n=true:=by exact rfl):QJ c ops R L K (o::rest) E:=vZ hw hd hn y h
def Qb{K:Act->Prop}{d:Nat}(y:Yld c E R L o v)(h:QJ c ops R L K rest ((d,v)::E))(hw:Wn c ops E o true:=by exact cP rfl rfl rfl rfl)(hd:o.dst=some d:=by exact rfl)(hn:Nat.blt d c.n=true:=by exact rfl):QJ c ops R L K (o::rest) E:=vZ hw hd hn y h
def Qk{K:Act->Prop}{d:Nat}(h:QJ c ops R L K rest ((d,undef)::E))(hw:Wn c ops E o false:=by exact AK rfl rfl rfl rfl rfl)(hd:o.dst=some d:=by exact rfl)(hn:Nat.blt d c.n=true:=by exact rfl):QJ c ops R L K (o::rest) E:=B8 hw hd hn h
def La{t et:TypeId}(hT:ZZ c.P t)(e:ev E x=some (.pointer (some ⟨b,off,none⟩)):=by exact rfl)(f:Find (QA b l et) L M:=by(repeat(first|exact zH _|apply zT));done)(h:ZO l off=some v:=by exact rfl):Yld c E R L ⟨d,.load t x,ty,p,af,g⟩ v:=Dg hT e f h
def Ls{t e':TypeId}(hT:ZZ c.P t)(e:ev E x=some (qj v j):=by exact rfl)(f:Find (QN e' sz v n xs) L M:=by(repeat(first|exact zH _|apply zT));done)(hu:ZO xs j=some u:=by exact rfl):Yld c E R L ⟨d,.load t x,ty,p,af,g⟩ u:=XC hT e f hu
def Lm{t et:TypeId}(hT:yz c.P t n)(hn:vs.length=n:=by exact rfl)(e:ev E x=some (.pointer (some ⟨b,0,none⟩)):=by exact rfl)(f:Find (QA b vs et) L M:=by(repeat(first|exact zH _|apply zT));done):Yld c E R L ⟨d,.load t x,ty,p,af,g⟩ (.agg ⟨vs⟩):=ie hT hn e f
def Lb{t et:TypeId}(hT:yz c.P t n)(e:ev E x=some (.pointer (some ⟨b,off,none⟩)):=by exact rfl)(f:Find (QA b l et) L M:=by(repeat(first|exact zH _|apply zT));done)(hv:(l.drop off).take n=vs:=by exact rfl)(hn:vs.length=n:=by exact rfl):Yld c E R L ⟨d,.load t x,ty,p,af,g⟩ (.agg ⟨vs⟩):=ic hT e f hv hn
def Ga{s ft:TypeId}{f:Nat}{fs:Array Field}(hS:c.P.underlying s=some (.struct fs))(hZ:∀w,(sizeOf ft).run c.P w=.ok n w)(e:ev E x=some (.pointer (some ⟨b,off,none⟩)):=by exact rfl)(hF:gZ fs f=some (ft,k):=by exact rfl)(hn:n≠0:=by decide):Yld c E R L ⟨d,.fieldAddr s x f,ty,p,af,g⟩ (.pointer (some ⟨b,off+k,none⟩)):=ig hS hF hn hZ e
def Ca{xs:List Operand}(hc:∀args w,(callFunc f args).run c.P w=.ok (.enter f args) w)(ht:QTri c.P f vs R pre v)(hv:evs E xs=some vs:=by exact rfl)(hs:Split L pre F:=by(repeat(first|exact zN _|(apply zS;focus(repeat(first|exact zH _|apply zT)))))):Yld c E R L ⟨d,.call {callee:=.value (.func f),args:=⟨xs⟩,argTypes:=ts},ty,p,af,g⟩ v:=Di hc hv ht hs
def Sa{t et:TypeId}{l':List Value}(hT:ZZ c.P t)(h:RJ c ops Q rest E R (QA b l' et::M))(hw:Wn c ops E ⟨none,.store t x y,ty,p,af,g⟩ true:=by exact Qo rfl)(e1:ev E x=some (.pointer (some ⟨b,off,none⟩)):=by exact rfl)(e2:ev E y=some v:=by exact rfl)(hv:v.oneCell'=true:=by first|rfl|assumption|(apply Aq;assumption))(f:Find (QA b l et) L M:=by(repeat(first|exact zH _|apply zT));done)(hl:Nat.blt off l.length=true:=by exact rfl)(he:yh l off v=l':=by exact rfl):RJ c ops Q (⟨none,.store t x y,ty,p,af,g⟩::rest) E R L:=oy hT hw e1 e2 hv f hl he h
def Sm{t et:TypeId}(hT:yz c.P t n)(hv:∀v∈vs,v.oneCell'=true)(h:RJ c ops Q rest E R (QA b vs et::M))(hn:vs.length=n:=by exact rfl)(hw:Wn c ops E ⟨none,.store t x y,ty,p,af,g⟩ true:=by exact Qo rfl)(e1:ev E x=some (.pointer (some ⟨b,0,none⟩)):=by exact rfl)(e2:ev E y=some (.agg ⟨vs⟩):=by exact rfl)(f:Find (QA b l et) L M:=by(repeat(first|exact zH _|apply zT));done)(hl:l.length=n:=by exact rfl):RJ c ops Q (⟨none,.store t x y,ty,p,af,g⟩::rest) E R L:=aD hT hn hw e1 e2 hv f hl h
def Ra{d:Nat}{xs:List Operand}(hc:∀args w,(callFunc f args).run c.P w=.ok (.enter f args) w)(ht:Tri c.P f vs R pre post pan)(h:∀v R' L',R.le R'->post v R' L'->RJ c ops Q rest ((d,v)::E) R' (L'++F))(hw:Wn c ops E ⟨some d,.call {callee:=.value (.func f),args:=⟨xs⟩,argTypes:=ts},ty,p,af,g⟩ true:=by exact Qo rfl)(hn:Nat.blt d c.n=true:=by exact rfl)(hv:evs E xs=some vs:=by exact rfl)(hs:Split L pre F:=by(repeat(first|exact zN _|(apply zS;focus(repeat(first|exact zH _|apply zT))))))(hp:∀ch R' L',R.le R'->pan ch R' L'->EJ c (Q (.panic ch)) E R' (L'++F):=by exact λ_ _ _ _ h=>h.elim):RJ c ops Q (⟨some d,.call {callee:=.value (.func f),args:=⟨xs⟩,argTypes:=ts},ty,p,af,g⟩::rest) E R L:=XW hw hn hc hv ht hs hp h
def Pm{d:Nat}(h:RJ c ops Q rest ((d,v)::E) R L)(e:ev E x=some v:=by exact rfl)(hn:Nat.blt d c.n=true:=by exact rfl):RJ c ops Q (⟨some d,.move x,ty,p,af,none⟩::rest) E R L:=DR rfl rfl hn (Qf e) h
def Ps{d:Nat}(h:RJ c ops Q rest ((d,v)::E) R L)(e:ev E x=some v:=by exact rfl)(hn:Nat.blt d c.n=true:=by exact rfl):RJ c ops Q (⟨some d,.assign x,ty,p,af,none⟩::rest) E R L:=DR rfl rfl hn (Xs e) h
end
def Qm(h:Find A L M:=by(repeat(first|exact zH _|apply zT));done):Find A L M:=h
def Za{N:List Qj}(h:Split L M N:=by(repeat(first|exact zN _|(apply zS;focus(repeat(first|exact zH _|apply zT)))))):Split L M N:=h
def Qw(h:Sub L M:=by(repeat(first|exact zR _|(apply zP;focus(repeat(first|exact zH _|apply zT)))|apply zD|exact zA _ _))):Sub L M:=h
def QB(h:R.le R':=by first|exact Hp.le_refl _|assumption|exact Hp.le_trans ‹_› ‹_›):R.le R':=h
def Qu(h:p:=by first|omega|(dsimp only;omega)|(simp;done)|(simp;omega)):p:=h
def Ea{R0:Hp}{rs:List ResultVar}(hr:fn.results=⟨rs⟩)(hv:RVs c E R L rs vs)(L':List Qj)(hR:R0.le R)(hp:post (QI vs) R L')(hS:Sub L (L'++F):=by(repeat(first|exact zR _|(apply zP;focus(repeat(first|exact zH _|apply zT)))|apply zD|exact zA _ _))):EJ c (zy c.P fn c.σ R0 F post pan .ret) E R L:=qs hr hv R L' hR rfl hS hp
def o3:ZZ Tryz.prog 3:=⟨Tryz.isAgg3,IL⟩
def o4:ZZ Tryz.prog 4:=⟨Tryz.isAgg4,JA⟩
def o9:ZZ Tryz.prog 9:=⟨Tryz.isAgg9,Tryz.sizeOf9⟩
def A3:ZZ Tryz.prog 34:=⟨Tryz.isAgg34,Tryz.sizeOf34⟩
def QO:ZZ Tryz.prog 36:=⟨Tryz.isAgg36,Tryz.sizeOf36⟩
def Eg:ZZ Tryz.prog 39:=⟨Tryz.isAgg39,Tryz.sizeOf39⟩
def FW:yz Tryz.prog 41 4:=⟨Tryz.isAgg41,Tryz.sizeOf41⟩
def fx:ZZ Tryz.prog 42:=⟨Tryz.isAgg42,Tryz.sizeOf42⟩
def Gf:ZZ Tryz.prog 49:=⟨Tryz.isAgg49,Tryz.sizeOf49⟩
def wt:yz Tryz.prog 53 4:=⟨Tryz.isAgg53,Tryz.sizeOf53⟩
def Zz:ZZ Tryz.prog 55:=⟨Tryz.isAgg55,Tryz.sizeOf55⟩
def XH:ZZ Tryz.prog 56:=⟨Tryz.isAgg56,Tryz.sizeOf56⟩
def A2:ZZ Tryz.prog 66:=⟨Tryz.isAgg66,Tryz.sizeOf66⟩
def Ee:ZZ Tryz.prog 74:=⟨Tryz.isAgg74,Tryz.sizeOf74⟩
def zI:ZZ Tryz.prog 75:=⟨Tryz.isAgg75,Tryz.sizeOf75⟩
def zG:ZZ Tryz.prog 76:=⟨Tryz.isAgg76,Tryz.sizeOf76⟩
def Yk:yz Tryz.prog 78 3:=⟨Tryz.isAgg78,Tryz.sizeOf78⟩
def Ed:ZZ Tryz.prog 81:=⟨Tryz.isAgg81,Tryz.sizeOf81⟩
def oP:ZZ Tryz.prog 83:=⟨Tryz.isAgg83,Tryz.sizeOf83⟩
def so:ZZ Tryz.prog 85:=⟨Tryz.isAgg85,Tryz.sizeOf85⟩
def oO:ZZ Tryz.prog 88:=⟨Tryz.isAgg88,Tryz.sizeOf88⟩
def yQ:yz Tryz.prog 93 2:=⟨Tryz.isAgg93,Tryz.sizeOf93⟩
def fw:ZZ Tryz.prog 98:=⟨Tryz.isAgg98,Tryz.sizeOf98⟩
def lF:ZZ Tryz.prog 107:=⟨Tryz.isAgg107,Tryz.sizeOf107⟩
def gm:yz Tryz.prog 111 8:=⟨Tryz.isAgg111,Tryz.sizeOf111⟩
def iL:ZZ Tryz.prog 113:=⟨Tryz.isAgg113,Tryz.sizeOf113⟩
def Yl:yz Tryz.prog 117 10:=⟨Tryz.isAgg117,Tryz.sizeOf117⟩
def zX:ZZ Tryz.prog 123:=⟨Tryz.isAgg123,IT⟩
def YY:ZZ Tryz.prog 148:=⟨Tryz.isAgg148,Tryz.sizeOf148⟩
def QF:yz Tryz.prog 150 4:=⟨Tryz.isAgg150,Tryz.sizeOf150⟩
def F1:yz Tryz.prog 156 0:=⟨Tryz.isAgg156,Tryz.sizeOf156⟩
def x7:ZZ Tryz.prog 205:=⟨Tryz.isAgg205,Tryz.sizeOf205⟩
def Om(h:p:=by omega):p:=h
def Dc(h:p:=by decide):p:=h
def Kr(h:p:=by kernel_rfl):p:=h
def Si(h:p:=by simp):p:=h
def Do(h:p:=by dsimp only;omega):p:=h
structure EL (_:List Nat) (E' E:Env):Prop where
 h:Env.le E' E
def EL.a0:EL [] [] E:=⟨eN⟩
def EL.a1{E':Env}{t:Nat}{ts:List Nat}(h:lk E t=some v)(k:EL ts E' E):EL (t::ts) ((t,v)::E') E:=⟨eC h k.h⟩
section
variable{c:Cx}{Q:Exit->Act->World->Prop}{E:Env}{R:Hp}{L:List Qj}
def cE{x:Code}{E':Env}(ts:List Nat)(h:CJ c x Q E' R L)(k:EL ts E' E:=by(repeat(first|exact EL.a0|(apply EL.a1;exact rfl)))):CJ c x Q E R L:=gF k.h h
def Lp{x:Code}{ι:Type}(E0:ι->Env)(R0:ι->Hp)(L0:ι->List Qj)(I:ι->Prop)(m:ι->Nat)(x0:ι)(h0:I x0)(h:∀y,I y->CJ c x (Exit.then (dL c E0 R0 L0 I m y) Q) (E0 y) (R0 y) (L0 y))(hE:Env.le (E0 x0) E:=by(repeat(first|exact eN|refine eC rfl ?_)))(hS:Sub L (L0 x0):=by(repeat(first|exact zR _|(apply zP;focus(repeat(first|exact zH _|apply zT)))|apply zD|exact zA _ _)))(hR:R=R0 x0:=by exact rfl):CJ c (.loop x) Q E R L:=gF hE (gE hS (hR▸g7 E0 R0 L0 I m x0 h0 h))
def ro{ι:Type}{E0:ι->Env}{R0:ι->Hp}{L0:ι->List Qj}{I:ι->Prop}{m:ι->Nat}{x:ι}(k:dL c E0 R0 L0 I m x=q)(h:EJ c (dL c E0 R0 L0 I m x) E R L):EJ c q E R L:=k▸h
def rd{ι:Type}{E0:ι->Env}{R0:ι->Hp}{L0:ι->List Qj}{I:ι->Prop}{m:ι->Nat}{x:ι}(y:ι)(hI:I y)(hm:m y<m x)(he:Env.le (E0 y) E:=by(repeat(first|exact eN|refine eC rfl ?_)))(hR:R0 y=R:=by exact rfl)(hL:Sub L (L0 y):=by(repeat(first|exact zR _|(apply zP;focus(repeat(first|exact zH _|apply zT)))|apply zD|exact zA _ _))):EJ c (dL c E0 R0 L0 I m x) E R L:=fe y hI hm he hR hL
def Jn{ι:Sort _}{E0:ι->Env}{R0:ι->Hp}{L0:ι->List Qj}{I:ι->Prop}(h:∀y,I y->EJ c q (E0 y) (R0 y) (L0 y))(y:ι)(hI:I y)(he:Env.le (E0 y) E:=by(repeat(first|exact eN|refine eC rfl ?_)))(hR:R0 y=R:=by exact rfl)(hL:Sub L (L0 y):=by(repeat(first|exact zR _|(apply zP;focus(repeat(first|exact zH _|apply zT)))|apply zD|exact zA _ _))):EJ c q E R L:=qP h y hI he hR hL
def mG{l:List Oper}(Fs Cs Ts:List Nat){G0:List Qj}(h:FJ c l.toArray R L (λE'=>XJ c l.toArray L (λE R G=>RJ c l.toArray Q tl E R (L++G)) Cs E' R G0) Fs E)(hL:Sub L0 (L++G0):=by(repeat(first|exact zR _|(apply zP;focus(repeat(first|exact zH _|apply zT)))|apply zD|exact zA _ _)))(hm:c.P.follows .mixedOrders=true:=by kernel_rfl)(hB:aQ l.toArray Fs Cs Ts=true:=by kernel_rfl)(hr:zw l.toArray Ts=true:=by kernel_rfl)(ht:cX l Ts=some tl:=by exact rfl):CJ c (.region id l.toArray true) Q E R L0:=ti Fs Cs Ts G0 hL hm hB hr ht h
def dW{l:List Oper}(h:QJ c l.toArray R L (λa'=>∀w',Sat c.σ R L w'->Q .normal a' w') l E)(hm:c.P.follows .mixedOrders=true:=by kernel_rfl)(hB:Region.lexB .any l.toArray=true:=by kernel_rfl):CJ c (.region id l.toArray true) Q E R L:=C6 hm hB h
def cS{x y:Code}(h:∀K:Act->World->Prop,(∀{E R L},CJ c y Q E R L->EJ c K E R L)->CJ c x (Exit.then K Q) E R L):CJ c (.seq x y) Q E R L:=XN λK k=>h K λ{_ _ _}=>k _ _ _
def Wd{l:List Oper}(ho:zY l i=some o)(y:∀{R':Hp} {_:R.le R'} {G:List Qj},Yld c E R' (L++G) o v)(h:FJ c l.toArray R L K is ((d,v)::E))(hd:o.dst=some d:=by exact rfl)(hn:Nat.blt d c.n=true:=by exact rfl)(hw:Wn c l.toArray E o true:=by exact cP rfl rfl rfl rfl):FJ c l.toArray R L K (i::is) E:=kJ ho hd hn hw (λR' hr G'=> @y R' hr G') h
end
section
variable{c:Cx}{E:Env}{R:Hp}{L:List Qj}{fn:Func}{R0:Hp}{F:List Qj}{post:Value->Hp->List Qj->Prop}{pan:List PanicEntry->Hp->List Qj->Prop}{rs:List ResultVar}{vs:List Value}
def Er(hr:fn.results=⟨rs⟩)(L':List Qj)(hR:R0.le R)(hp:post (QI vs) R L')(hv:RVs c E R L rs vs:=by first|exact .cons (QH rfl) .nil|exact .nil|exact .cons (QH rfl) (.cons (QH rfl) .nil)|exact .cons (QH rfl) (.cons (QH rfl) (.cons (QH rfl) .nil))|exact .cons (QH rfl) (.cons (QH rfl) (.cons (QH rfl) (.cons (QH rfl) .nil))))(hS:Sub L (L'++F):=by(repeat(first|exact zR _|(apply zP;focus(repeat(first|exact zH _|apply zT)))|apply zD|exact zA _ _))):EJ c (zy c.P fn c.σ R0 F post pan .ret) E R L:=qs hr hv R L' hR rfl hS hp
def Es(hr:fn.results=⟨rs⟩)(L':List Qj)(hp:post (QI vs) R L')(hv:RVs c E R L rs vs:=by first|exact .cons (QH rfl) .nil|exact .nil|exact .cons (QH rfl) (.cons (QH rfl) .nil)|exact .cons (QH rfl) (.cons (QH rfl) (.cons (QH rfl) .nil))|exact .cons (QH rfl) (.cons (QH rfl) (.cons (QH rfl) (.cons (QH rfl) .nil))))(hS:Sub L (L'++F):=by(repeat(first|exact zR _|(apply zP;focus(repeat(first|exact zH _|apply zT)))|apply zD|exact zA _ _)))(hR:R0.le R:=by first|exact Hp.le_refl _|assumption|exact Hp.le_trans ‹_› ‹_›):EJ c (zy c.P fn c.σ R0 F post pan .ret) E R L:=qs hr hv R L' hR rfl hS hp
def Et(hr:fn.results=⟨rs⟩)(L':List Qj)(hR:R0.le R)(hp:post (QI vs) R L')(hv:RVs c E R L rs vs:=by first|exact .cons (QH rfl) .nil|exact .nil|exact .cons (QH rfl) (.cons (QH rfl) .nil)|exact .cons (QH rfl) (.cons (QH rfl) (.cons (QH rfl) .nil))|exact .cons (QH rfl) (.cons (QH rfl) (.cons (QH rfl) (.cons (QH rfl) .nil))))(hS:Sub L (L'++F):=by(repeat(first|exact zR _|(apply zP;focus(repeat(first|exact zH _|apply zT)))|apply zD|exact zA _ _))):EJ c (zy c.P fn c.σ R0 F post pan .normal) E R L:=ay hr hv R L' hR rfl hS hp
end
def To{f:Nat}{body:Code}{args:List Value}(hf:P.funcs[f]?=some fn)(hn:fn.ntmps=n)
 (h:∀σ F (Q:Exit->Act->World->Prop),(∀{E R1 L1},EJ ⟨P,n,σ⟩ (zy P fn σ R F post pan .ret) E R1 L1->EJ ⟨P,n,σ⟩ (Q .ret) E R1 L1)->(∀{E R1 L1},EJ ⟨P,n,σ⟩ (zy P fn σ R F post pan .normal) E R1 L1->EJ ⟨P,n,σ⟩ (Q .normal) E R1 L1)->(∀ch E R1 L1,EJ ⟨P,n,σ⟩ (zy P fn σ R F post pan (.panic ch)) E R1 L1->EJ ⟨P,n,σ⟩ (Q (.panic ch)) E R1 L1)->CJ ⟨P,n,σ⟩ body Q (fa 0 args) R (L++F))
 (hb:fn.body=some body:=by exact rfl) (ha:Nat.ble args.length n=true:=by exact rfl):Tri P f args R L post pan:=Du hf hb hn ha λσ F Q a b p=>h σ F Q (λ{_ _ _}=>a _ _ _) (λ{_ _ _}=>b _ _ _) p
set_option maxRecDepth 100000
set_option maxHeartbeats 4000000
abbrev Qy:=Int×List UInt8
structure Msg where
 kind:Int
 frm:Int
 to:Int
 term:Int
 index:Int
 logTerm:Int
 commit:Int
 ok:Bool
 es:List Qy
 state:List UInt8
deriving DecidableEq
def Msg.zero:Msg:=⟨0,0,0,0,0,0,0,false,[],[]⟩
def XB(e:Qy):List Value:=[.int .u64 e.1,.string (Qs e.2)]
def entE:Elt Qy where
 P:=λ_ e cs=>cs=XB e
 sz:=2
 mono:=λ_ h=>h
 len:=λh=>by subst h;rfl
 one:=λh u hu=>by subst h;simp[XB]at hu;rcases hu with rfl|rfl<;>rfl
def Xl(m:Msg)(ve:Value):List Value:=[.int .i64 m.kind,.int .i64 m.frm,.int .i64 m.to,.int .u64 m.term,.int .u64 m.index,.int .u64 m.logTerm,.int .u64 m.commit,.bool m.ok,ve,.string (Qs m.state)]
def msgE:Elt Msg where
 P:=λR m cs=>∃ve,cs=Xl m ve/\FrX entE R m.es ve
 sz:=10
 mono:=λhR ⟨ve,h,k⟩=>⟨ve,h,k.mono hR⟩
 len:=λ⟨ve,h,k⟩=>by subst h;rfl
 one:=λ⟨ve,h,k⟩ u hu=>by subst h;simp only[Xl,Gn,Gs,G7]at hu;rcases hu with rfl|rfl|rfl|rfl|rfl|rfl|rfl|rfl|rfl|rfl<;>first|rfl|exact k.one
def dp(n:Int):Prop:= -9223372036854775808<=n/\n<=9223372036854775807
def QQ(n:Int):Prop:=0<=n/\n<18446744073709551616
def lQ{n:Int}(h:IntKind.i64.min<=n/\n<=IntKind.i64.max):dp n:=by simpa[dp,IntKind.min,IntKind.max,IntKind.signed,IntKind.bits]using h
def sV(a b:Qy)(w:World):(binOp .neq 93 (.agg ⟨XB a⟩) (.agg ⟨XB b⟩)).run Tryz.prog w=.ok (.bool (!decide (a=b))) w:=by
 have hS:Tryz.prog.underlying 93=some (.struct (Tryz.prog.fieldsOf 93)):=Kr;have hp:Tryz.prog.stoodInHeld 93=false:=Kr;simp[XB];rw[run_neq_struct,show(10000:Nat)=9999+1 from rfl,run_equalIn_agg w 9999 93 _ _ hS hp];simp[Program.fieldsOf,Tryz.underlying93]
 go_simp
 let⟨a1,a2⟩:=a;let⟨b1,b2⟩:=b;by_cases h1:a1=b1<;>by_cases h2:a2=b2<;>simp[h1,h2,Prod.ext_iff]
def rN{d:Option Tmp}{ty:TypeId}{p:String}{af:Array Edge}{g:Option (Nat×Bool)}{t t':TypeId}{b:Bool}(hm:c.P.eqGuardType c.P.depth t=false)
  (e1:ev E x=some (.agg ⟨xs⟩)) (e2:ev E y=some (.agg ⟨ys⟩)) (hr:∀w,(binOp .neq t (.agg ⟨xs⟩) (.agg ⟨ys⟩)).run c.P w=.ok (.bool b) w):Yld c E R L ⟨d,.binOp .neq t x y t',ty,p,af,g⟩ (.bool b):=
 λa w hf _=>by
  have hg:=run_eqGuard_agg (P:=c.P) w .neq t x y ⟨xs⟩ ⟨ys⟩ hm
  simp[execOp,hf.ev e1,hf.ev e2,hg,hr w,Oper.quietUpon]
structure DK where
 b:List UInt8
 sure:Nat
 fuel:Int
 bound:Bool
 down:Bool
def DK.new:DK:=⟨[],0,0,false,false⟩
def DK.step(D:DK):Bool×DK:=if D.down then(false,D)else if D.bound then(if D.fuel=0 then(false,{D with down:=true})else(true,{D with fuel:=D.fuel-1}))else(true,D)
def DK.append(D:DK)(s:List UInt8):Int×DK:=if D.step.1 then(0,{D.step.2 with b:=D.step.2.b++s})else(3,D.step.2)
def DK.sync(D:DK):Int×DK:=if D.step.1 then(0,{D.step.2 with sure:=D.step.2.b.length})else(3,D.step.2)
def DK.swap(D:DK)(s:List UInt8):Int×DK:=if D.step.1 then(0,{D.step.2 with b:=s,sure:=s.length})else(3,D.step.2)
def DK.setFuel(D:DK)(n:Int):DK:={D with fuel:=n,bound:=decide (n>=0)}
def DK.keeps(D:DK)(n:Int):Nat:=D.sure+min n.toNat (D.b.length-D.sure)
def DK.crash(D:DK)(n:Int):DK:=⟨D.b.take (D.keeps n),D.keeps n,D.fuel,false,false⟩
def DK.ok(D:DK)(m:Nat):Prop:=D.sure<=D.b.length/\D.b.length<=m/\ -9223372036854775808<=D.fuel/\D.fuel<=9223372036854775807/\(D.bound=true->0<=D.fuel)
@[reducible] def Xg (b : Nat) (v : Value) (D : DK) : Qj := QA b [v, .int .i64 (D.sure : Int), .int .i64 D.fuel, .bool D.bound, .bool D.down] 125
@[reducible] def Xf (v : Value) (D : DK) : Qj := QN 5 1 v D.b.length (XU D.b)
set_option maxHeartbeats 1000000
def Fv:Tri Tryz.prog 47 [] R [] (λv R' L'=>R=R'/\∃b u,v=.pointer (some ⟨b,0,none⟩)/\L'=[Xg b u DK.new,Xf u DK.new]):=by
 refine To Tryz.func47 Tryz.ntmps47 λ_ F _ r_ _ _=>?_;refine cS λ_ k1=>Qc (Ps (Qd (k1 (cS λ_ k2=>Qc ?_))));refine Pa (Xh (cells:=[_,_,_,_,_]) [(0,1),(1,1),(2,1),(3,1),(4,1)] G8 Tryz.zeroValue125 (λ_=>rfl) rfl rfl) ?_;refine Xc (Qo rfl) rfl rfl rfl (λb2=>?_);refine Zb (A:=Xf (.slice none 0 0) DK.new) (Yr _ _) ?_;refine Ps (Qd (k2 (Qg (r_ ?_))));refine Es Tryz.results47 [Xg b2 (.slice none 0 0) DK.new,Xf (.slice none 0 0) DK.new] ?_;exact⟨rfl,_,_,rfl,rfl⟩
def pP(b:Nat)(v:Value)(D:DK):QTri Tryz.prog 85 [.pointer (some ⟨b,0,none⟩)] R [Xg b v D] (.bool D.down):=by
 refine Tri.q ?_;refine To Tryz.func85 Tryz.ntmps85 λ_ F _ r_ _ _=>?_;refine cS λ_ k1=>Qc (Ps (Qd (k1 (cS λ_ k2=>Qc ?_))));refine Pm ?_;refine Pa (Yv J9 rfl rfl) (Pm ?_);refine Pb (Qf rfl) ?_;refine Pb (Qe rfl) ?_;refine Pb (Ga G8 JA) ?_;refine Pb (La o4) ?_;refine Pa (Qn rfl rfl) (Ps (Qd (k2 (Qg (r_ ?_)))));refine Es Tryz.results85 [Xg b v D] ?_;exact⟨rfl,rfl,rfl⟩
def n9(b:Nat)(v:Value)(D:DK)(m:Nat)(hD:D.ok m):Tri Tryz.prog 107 [.pointer (some ⟨b,0,none⟩)] R [Xg b v D] (λr R' L'=>R=R'/\r=.bool D.step.1/\L'=[Xg b v D.step.2]):=by
 let⟨h1,h2,h3,h4,h5⟩:=hD;refine To Tryz.func107 Tryz.ntmps107 λ_ F _ r_ _ _=>?_;refine cS λ_ k1=>Qc (Ps (Qd (k1 (cS λ_ k2=>Qp (cS λ_ k3=>Qc ?_)))));refine Pm ?_;refine Pa (Ca Tryz.call85 (pP b v D)) (Ps (Qd (k3 ?_)));refine Qi rfl (λhc3=>?_) (λhc3=>?_);refine cS λ_ k5=>Qc (Ps (Qd (k5 (Qg (r_ ?_)))));apply qs Ks (.cons (QH rfl) .nil) _ _ QB rfl;case hp=>rw[show D.step=(false,D)by simp[DK.step,hc3]];exact⟨rfl,rfl,rfl⟩
 case hS=>exact Qw
 refine cS λ_ k6=>Qc (Pm ?_);refine Pa (Qe rfl) ?_;refine Pa (Ga G8 JA) ?_;refine Pa (La o4) ?_;refine Pa (Xa rfl) (Ps (Qd (k6 ?_)));refine Qi rfl (λhc6=>?_) (λhc6=>?_);try simp[dx]at hc6
 refine cS λ_ k8=>Qc (Ps (Qd (k8 (Qg (r_ ?_)))));apply qs Ks (.cons (QH rfl) .nil) _ _ QB rfl;case hp=>rw[show D.step=(true,D)by simp[DK.step,hc3,hc6]];exact⟨rfl,rfl,rfl⟩
 case hS=>exact Qw
 (try simp[dx]at hc6);have hf:=h5 hc6
 refine cS λ_ k9=>Qc (Pm ?_);refine Pa (Qe rfl) ?_;refine Pa (Ga G8 IL) ?_;refine Pa (La o3) ?_;refine Pa (QL rfl rfl) (Ps (Qd (k9 ?_)));refine Qi rfl (λhc12=>?_) (λhc12=>?_);try simp[dx]at hc12
 refine cS λ_ k11=>Qc (Pm ?_);refine Pa (Qe rfl) ?_;refine Pa (Ga G8 JA) ?_;refine Sa o4 ?_;refine Qd (k11 ?_);refine cS λ_ k12=>Qc (Ps (Qd (k12 (Qg (r_ ?_)))));apply qs Ks (.cons (QH rfl) .nil) _ _ QB rfl;case hp=>rw[show D.step=(false,{D with down:=true})by simp[DK.step,hc3,hc6,hc12]];exact⟨rfl,rfl,rfl⟩
 case hS=>exact Qw
 try simp[dx]at hc12
 refine Qh (k2 (cS λ_ k13=>Qc (Pm ?_)));refine Pa (Qe rfl) ?_;refine Pa (Ga G8 IL) ?_;refine Pa (La o3) ?_;refine Pa (Zs rfl rfl Qu) ?_;refine Pa (Qe rfl) ?_;refine Pa (Ga G8 IL) ?_;refine Sa o3 ?_;refine Qd (k13 ?_);refine cS λ_ k14=>Qc (Ps (Qd (k14 (Qg (r_ ?_)))));apply qs Ks (.cons (QH rfl) .nil) _ _ QB rfl;case hp=>rw[show D.step=(true,{D with fuel:=D.fuel-1})by simp[DK.step,hc3,hc6,hc12]];exact⟨rfl,rfl,rfl⟩
 case hS=>exact Qw
def DK.step_b(D:DK):D.step.2.b=D.b/\D.step.2.sure=D.sure:=by
 unfold DK.step;split;.exact⟨rfl,rfl⟩
 split;.split<;>exact⟨rfl,rfl⟩
 exact⟨rfl,rfl⟩
def DK.step_ok{D:DK}(h:D.ok m):D.step.2.ok m:=by
 let⟨h1,h2,h3,h4,h5⟩:=h;unfold DK.step;split;.exact⟨h1,h2,h3,h4,h5⟩
 split
 .have:=h5 ‹_›;split;.exact⟨h1,h2,h3,h4,h5⟩
  exact⟨h1,h2,by simp only;omega,by simp only;omega,λ_=>by simp only;omega⟩
 exact⟨h1,h2,h3,h4,h5⟩
def AC(b:Nat)(v:Value)(D:DK)(m:Nat)(hD:D.ok m)(s:List UInt8)(hm:m+s.length<=1000000000):Tri Tryz.prog 112 [.pointer (some ⟨b,0,none⟩),.string (Qs s)] R [Xg b v D,Xf v D]
  (λr R' L'=>R=R'/\r=.int .i64 (D.append s).1/\∃u,L'=[Xg b u (D.append s).2,Xf u (D.append s).2]):=by
 have hs:=D.step_b;obtain⟨S,hS⟩:∃S,S=D.step:=⟨_,rfl⟩;let⟨h1,h2,h3,h4,h5⟩:=DK.step_ok hD;refine To Tryz.func112 Tryz.ntmps112 λ_ F _ r_ _ _=>?_;refine cS λ_ k1=>Qc (Ps (Qd (k1 (cS λ_ k2=>cS λ_ k3=>Qc ?_))));refine Pm ?_;refine Ra Mj (n9 b v D m hD) ?_;rintro r R' L' hR ⟨rfl,rfl,rfl⟩;rw[show Xf v D=Xf v D.step.2 by unfold Xf;rw[hs.1]];refine Pa (Xa rfl) (Qd (k3 ?_));refine Qi rfl (λhc7=>?_) (λhc7=>?_);try simp[dx]at hc7
 refine cS λ_ k5=>Qc (Ps (Qd (k5 (Qg (r_ ?_)))));refine Es Tryz.results112 [Xg b v D.step.2,Xf v D.step.2] ?_;rw[show D.append s=(3,D.step.2)by simp[DK.append,hc7]];exact⟨rfl,rfl,_,rfl⟩;try simp[dx]at hc7
 refine Qh (k2 (cS λ_ k6=>Qc (Pm (Pm ?_))));refine Pa (Qe rfl) ?_;refine Pa (Ga G8 IT) ?_;refine Pa (La zX) (Pm ?_);refine QZ (sz:=1) (by_:=1) ⟨I5,_,_,rfl,rfl,rfl,rfl,rfl⟩ (Qo rfl) rfl rfl rfl Qm (r9 IR) rfl Qu (by simp[maxLen];omega) (λv14 ho14 hh14=>?_);rw[fm,<-Gm];refine Pa (Qe rfl) ?_;refine Pa (Ga G8 IT) ?_;refine Sa zX ?_;refine Qd (k6 ?_);refine cS λ_ k7=>Qc (Ps (Qd (k7 (Qg (r_ ?_)))));refine Es Tryz.results112 [Xg b v14 {D.step.2 with b:=D.step.2.b++s},Xf v14 {D.step.2 with b:=D.step.2.b++s}] ?_;rw[show D.append s=(0,{D.step.2 with b:=D.step.2.b++s})by simp[DK.append,hc7]];exact⟨rfl,rfl,_,rfl⟩
def DD(b:Nat)(v:Value)(D:DK)(m:Nat)(hD:D.ok m):Tri Tryz.prog 113 [.pointer (some ⟨b,0,none⟩)] R [Xg b v D,Xf v D]
  (λr R' L'=>R=R'/\r=.int .i64 D.sync.1/\∃u,L'=[Xg b u D.sync.2,Xf u D.sync.2]):=by
 have hs:=D.step_b;refine To Tryz.func113 Tryz.ntmps113 λ_ F _ r_ _ _=>?_;refine cS λ_ k1=>Qc (Ps (Qd (k1 (cS λ_ k2=>cS λ_ k3=>Qc ?_))));refine Pm ?_;refine Ra Mj (n9 b v D m hD) ?_;rintro r R' L' hR ⟨rfl,rfl,rfl⟩;rw[show Xf v D=Xf v D.step.2 by unfold Xf;rw[hs.1]];refine Pa (Xa rfl) (Qd (k3 ?_));refine Qi rfl (λhc5=>?_) (λhc5=>?_);try simp[dx]at hc5
 refine cS λ_ k5=>Qc (Ps (Qd (k5 (Qg (r_ ?_)))));refine Es Tryz.results113 [Xg b v D.step.2,Xf v D.step.2] ?_;rw[show D.sync=(3,D.step.2)by simp[DK.sync,hc5]];exact⟨rfl,rfl,_,rfl⟩;try simp[dx]at hc5
 refine Qh (k2 (cS λ_ k6=>Qc (Pm (Pm ?_))));refine Pa (Qe rfl) ?_;refine Pa (Ga G8 IT) ?_;refine Pa (La zX) ?_;refine Pa (Zf I5 rfl Qm) ?_;refine Pa (Qe rfl) ?_;refine Pa (Ga G8 IL) ?_;refine Sa o3 ?_;refine Qd (k6 ?_);refine cS λ_ k7=>Qc (Ps (Qd (k7 (Qg (r_ ?_)))));refine Es Tryz.results113 [Xg b v {D.step.2 with sure:=D.step.2.b.length},Xf v D.step.2] ?_;rw[show D.sync=(0,{D.step.2 with sure:=D.step.2.b.length})by simp[DK.sync,hc5]];exact⟨rfl,rfl,_,rfl⟩
def vy(b:Nat)(v:Value)(D:DK)(m:Nat)(hD:D.ok m)(s:List UInt8)(hm:s.length<=1000000000):Tri Tryz.prog 84 [.pointer (some ⟨b,0,none⟩),.string (Qs s)] R [Xg b v D,Xf v D]
  (λr R' L'=>R=R'/\r=.int .i64 (D.swap s).1/\∃u,L'=[Xg b u (D.swap s).2,Xf u (D.swap s).2]):=by
 have hs:=D.step_b;refine To Tryz.func84 Tryz.ntmps84 λ_ F _ r_ _ _=>?_;refine cS λ_ k1=>Qc (Ps (Qd (k1 (cS λ_ k2=>cS λ_ k3=>Qc ?_))));refine Pm ?_;refine Ra Mj (n9 b v D m hD) ?_;rintro r R' L' hR ⟨rfl,rfl,rfl⟩;rw[show Xf v D=Xf v D.step.2 by unfold Xf;rw[hs.1]];refine Pa (Xa rfl) (Qd (k3 ?_));refine Qi rfl (λhc7=>?_) (λhc7=>?_);try simp[dx]at hc7
 refine cS λ_ k5=>Qc (Ps (Qd (k5 (Qg (r_ ?_)))));refine Es Tryz.results84 [Xg b v D.step.2,Xf v D.step.2] ?_;rw[show D.swap s=(3,D.step.2)by simp[DK.swap,hc7]];exact⟨rfl,rfl,_,rfl⟩;try simp[dx]at hc7
 refine Qh (k2 (cS λ_ k6=>Qc (Pm (Pm (Pm ?_)))));refine xG (Qo rfl) rfl IR I5 Tryz.underlying5 rfl (by simp[maxLen];omega) (λv11 ho11=>?_);refine Pm ?_;refine Pa (YP IR rfl) ?_;refine Pa (Qe rfl) ?_;refine Pa (Ga G8 IT) ?_;refine Sa zX ?_;refine Pa (Qe rfl) ?_;refine Pa (Ga G8 IL) ?_;refine Sa o3 ?_;refine Qd (k6 ?_);refine cS λ_ k7=>Qc (Ps (Qd (k7 (Qg (r_ ?_)))));refine Es Tryz.results84 [Xg b v11 {D.step.2 with b:=s,sure:=s.length},Xf v11 {D.step.2 with b:=s}] ?_;rw[show D.swap s=(0,{D.step.2 with b:=s,sure:=s.length})by simp[DK.swap,hc7]];exact⟨rfl,rfl,_,rfl⟩
def D1(b:Nat)(v:Value)(D:DK):QTri Tryz.prog 81 [.pointer (some ⟨b,0,none⟩)] R [Xg b v D,Xf v D]
  (.tuple #[.string (Qs (if D.down then[]else D.b)),.int .i64 (if D.down then 3 else 0)]):=by
 refine Tri.q ?_;refine To Tryz.func81 Tryz.ntmps81 λ_ F _ r_ _ _=>?_;refine cS λ_ k1=>Qc (Ps (Ps (Qd (k1 (cS λ_ k2=>cS λ_ k3=>Qc ?_)))));refine Pm ?_;refine Pa (Ca Tryz.call85 (pP b v D)) (Qd (k3 ?_));refine Qi rfl (λhc5=>?_) (λhc5=>?_);refine cS λ_ k5=>Qc (Ps (Ps (Qd (k5 (Qg (r_ ?_))))));refine Es Tryz.results81 [Xg b v D,Xf v D] ?_;rw[hc5];exact⟨rfl,rfl,rfl⟩;refine Qh (k2 (cS λ_ k6=>Qc (Pm ?_)));refine Pa (Qe rfl) ?_;refine Pa (Ga G8 IT) ?_;refine Pa (La zX) ?_;refine Pa (zZ I5 Tryz.underlying5 IR rfl Qm) (Ps (Ps (Qd (k6 (Qg (r_ ?_))))));refine Es Tryz.results81 [Xg b v D,Xf v D] ?_;rw[hc5];exact⟨rfl,rfl,rfl⟩
def Bt(b:Nat)(v:Value)(D:DK)(h:D.sure<=D.b.length/\D.b.length<=1000000000):QTri Tryz.prog 55 [.pointer (some ⟨b,0,none⟩)] R [Xg b v D,Xf v D] (.int .i64 ((D.b.length:Int)-D.sure)):=by
 refine Tri.q ?_;refine To Tryz.func55 Tryz.ntmps55 λ_ F _ r_ _ _=>?_;refine cS λ_ k1=>Qc (Ps (Qd (k1 (cS λ_ k2=>cS λ_ k3=>Qc ?_))));refine Pm ?_;refine Pa (Yv J9 rfl rfl) (Qd (k3 ?_));refine Qi rfl (λhc4=>?_) (λhc4=>?_);.cases hc4
 refine Qh (k2 (cS λ_ k5=>?_));refine dW ?_;refine Qa (Qf rfl) ?_;refine Qa (Qe rfl) ?_;refine Qa (Ga G8 IT) ?_;refine Qa (La zX) ?_;refine Qa (Zf I5 rfl Qm) ?_;refine Qa (Qf rfl) ?_;refine Qa (Qe rfl) ?_;refine Qa (Ga G8 IL) ?_;refine Qa (La o3) ?_;refine Qa (Zs rfl rfl Qu) ?_;refine Qa (Xs rfl) ?_;refine Xj ?_;refine k5 (Qg (r_ ?_));refine Es Tryz.results55 [Xg b v D,Xf v D] ?_;exact⟨rfl,rfl,rfl⟩
def Ep(b:Nat)(v:Value)(D:DK)(n:Int):Tri Tryz.prog 51 [.pointer (some ⟨b,0,none⟩),.int .i64 n] R [Xg b v D] (λr R' L'=>R=R'/\L'=[Xg b v (D.setFuel n)]):=by
 refine To Tryz.func51 Tryz.ntmps51 λ_ F _ _ n_ _=>?_;refine cS λ_ k1=>Qc (Pm ?_);refine Pa (yT J9 rfl rfl) (Qd (k1 ?_));refine Qi rfl (λhc5=>?_) (λhc5=>?_);refine Qc (Pm (Pm (Pm (Pm ?_))));refine Pa (ZP rfl rfl) ?_;refine Pa (Qe rfl) ?_;refine Pa (Ga G8 IL) ?_;refine Sa o3 ?_;refine Pa (Qe rfl) ?_;refine Pa (Ga G8 JA) ?_;refine Sa o4 ?_;refine Qd (n_ ?_);refine Et Tryz.results51 [Xg b v (D.setFuel n)] QB ?_;exact⟨rfl,rfl⟩;cases hc5
def z8(D:DK)(n:Int)(h:D.sure<=D.b.length):(D.sure:Int)+min (max n 0) ((D.b.length:Int)-D.sure)=(D.keeps n:Nat):=by
 unfold DK.keeps;omega
def CZ(b:Nat)(v:Value)(D:DK)(m:Nat)(hD:D.ok m)(hm:m<=1000000000)(n:Int):Tri Tryz.prog 34 [.pointer (some ⟨b,0,none⟩),.int .i64 n] R [Xg b v D,Xf v D]
  (λr R' L'=>R=R'/\∃u,L'=[Xg b u (D.crash n),Xf u (D.crash n)]):=by
 let⟨h1,h2,h3,h4,h5⟩:=hD;have hk:=z8 D n h1;have hk2:D.keeps n<=D.b.length:=by unfold DK.keeps;omega
 refine To Tryz.func34 Tryz.ntmps34 λ_ F _ _ n_ _=>?_;refine qh (A:=Xf v D) Qm zl (λho=>?_);refine cS λ_ k1=>cS λ_ k2=>Qc (Pm ?_);refine Pa (Yv J9 rfl rfl) (Qd (k2 ?_));refine Qi rfl (λhc5=>?_) (λhc5=>?_);.cases hc5
 refine Qh (k1 (cS λ_ k4=>?_));refine d9 [0,1,2,3,4,5,6,7,8,9,10,11] [] [12] Kr Kr Kr rfl ?_;refine Wc rfl (Qf rfl) ?_;refine Wc rfl (Qe rfl) ?_;refine Wc rfl (Ga G8 IL) ?_;refine Wc rfl (La o3) ?_;refine Wc rfl (Qf rfl) ?_;refine Wc rfl (ee rfl rfl) ?_;refine Wc rfl (Qf rfl) ?_;refine Wc rfl (Ca Tryz.call55 (Bt b v D ⟨h1,Om⟩)) ?_;refine Wc rfl (gH rfl rfl) ?_;refine Wc rfl ((Qz rfl rfl Om).to (GM _ hk)) ?_;refine Wc rfl (Qe rfl) ?_;refine Wc rfl (Ga G8 IL) ?_;refine Xq ?_;refine Xt ?_;try simp[cC]
 refine Sa o3 ?_;refine Qd (k4 (cS λ_ k5=>?_));refine d9 [0,1,2,3,4,5,6,7,8,9,10,11] [] [12] Kr Kr Kr rfl ?_;refine Wc rfl (Qf rfl) ?_;refine Wc rfl (Qf rfl) ?_;refine Wc rfl (Qe rfl) ?_;refine Wc rfl (Ga G8 IT) ?_;refine Wc rfl (La zX) ?_;refine Wc rfl (Qf rfl) ?_;refine Wc rfl (Qe rfl) ?_;refine Wc rfl (Ga G8 IL) ?_;refine Wc rfl (La o3) ?_;refine Wc rfl (rj I5 Tryz.sizeOf5 rfl Qm rfl ⟨_,rfl⟩ Qu) ?_;refine Wc rfl (Qe rfl) ?_;refine Wc rfl (Ga G8 IT) ?_;refine Xq ?_;refine Xt ?_;try simp[cC]
 refine Sa zX ?_;refine Qd (k5 ?_);refine Qc ?_;refine XM (A:=Xf v D) (B:=Xf (dv v 0 (D.keeps n) 1) (D.crash n)) Qm (BX hk2) ?_;refine Pm (Pm ?_);refine Pa (Qe rfl) ?_;refine Pa (Ga G8 JA) ?_;refine Sa o4 ?_;refine Pa (Qe rfl) ?_;refine Pa (Ga G8 JA) ?_;refine Sa o4 ?_;refine Qd (n_ ?_);refine Et Tryz.results34 [Xg b (dv v 0 (D.keeps n) 1) (D.crash n),Xf (dv v 0 (D.keeps n) 1) (D.crash n)] QB ?_;exact⟨rfl,_,rfl⟩
end V
end Go.Proofs.YtenfjpigffjgmaaGreat
