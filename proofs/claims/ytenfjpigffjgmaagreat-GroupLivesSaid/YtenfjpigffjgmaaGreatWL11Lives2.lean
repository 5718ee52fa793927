/- Parts: V21 T9n. -/
import Derived.Test.YtenfjpigffjgmaaGreatWL11Lives1
import Derived.MapKept
import Derived.Laws.IdiomRangeMap
import Derived.Laws.MakeOwn
set_option linter.defProp false
set_option linter.unusedSimpArgs false
set_option linter.unusedVariables false
namespace Go.Proofs.YtenfjpigffjgmaaGreat
open Go.RowKit
open Go.Proofs.Tryz
namespace V
variable{R R0 R':Hp}{k n i b j d clock:Nat}{w σ:World}{D:DK}{L M F L':List Qj}{ik:IntKind}{f:Int->Option Value}{v:Value}{E:Env}{l:List Int}{m:Msg}{t vt:Int}{a:Act}{post:Value->Hp->List Qj->Prop}{Q:Exit->Act->World->Prop}{ops:Array Oper}{cs:List Value}{c:Cx}{fn:Func}{o:Oper}{es:Array MapEntry}{P:Program}{y:Operand}{ts:Array TypeId}{pan:List PanicEntry->Hp->List Qj->Prop}
section
variable{c:Cx}{ops:Array Oper}{Q:Exit->Act->World->Prop}{R:Hp}{L:List Qj}
def ES(ops:Array Oper)(fl ft:List Nat)(b:Nat):Bool:=fl.all λi=>ft.contains i||ZH ops ops.size b i
def SB(c:Cx)(ops:Array Oper)(Q:Exit->Act->World->Prop)(fl ft:List Nat)(b:Nat):List Nat->Env->Hp->List Qj->List Qj->Prop
 |[],E,R,L,G=>EJ c (Q .normal) E R (L++G)
 |i::is,E,R,L,G=>(i∈fl/\∃v E',nG c ops R L i E v E'/\(i∈ft->nG c ops R [] i E v E')/\SB c ops Q fl ft b is E' R L G)\/
   (i∉fl/\∃o,ops[i]?=some o/\∀a w,Fr c.n E a->Sat c.σ R (L++G) w->
    if Region.wanted o (yielded ops a.tmps)then o.wp c.P a w (λa' w'=>∃u E' R' L' G',(L'=L\/(i=b/\L'=[]))/\R.le R'/\a'=a.put o.dst u/\Fr c.n E' a'/\Sat c.σ R' (L'++G') w'/\SB c ops Q fl ft b is E' R' L' G') (λ_ _ _=>False)
    else∃E' R' L' G',(L'=L\/(i=b/\L'=[]))/\R.le R'/\Fr c.n E' (a.put o.dst undef)/\Sat c.σ R' (L'++G') w/\SB c ops Q fl ft b is E' R' L' G')
structure SegC (c:Cx) (ops:Array Oper) (Q:Exit->Act->World->Prop) (L:List Qj) (fl ft:List Nat) (b:Nat) (listed:Array Bool) (a:Act) (w:World) (pend:List (Nat×Value)) (l:List Nat) (r:Option Nat) (E:Env) (R:Hp) (G:List Qj):Prop where
 pf:∀x∈pend,x.1∈fl/\x.1<ops.size/\zU ops x.1=true/\Ym ops x.1 x.1=false
 pp:∀x∈pend,∀y∈pend,x.1≠y.1->(Ym ops x.1 y.1=false\/ZH ops ops.size x.1 y.1=true)/\qc ops x.1 y.1=false
 pl:∀x∈pend,∀j∈l,Bk ops x.1 j
 nd:(pend.map (·.1)++l).Nodup
 lb:∀j∈l,j<ops.size/\zU ops j=true/\(j∈fl->Ym ops j j=false)
 sp:iH ops fl r l=true
 sj:SB c ops Q fl ft b l E R L G
 fr:Fr c.n E (Yd ops a pend)
 sat:Sat c.σ R (L++G) w
 qk:∀x∈pend,QK c ops R L x (Yd ops a pend)
 q0:∀x∈pend,x.1∈ft->QK c ops R [] x (Yd ops a pend)
 bk:∀x∈fl,x∈ft\/ZH ops ops.size b x=true
 un:∀j,j<ops.size->(listed.getD j false=false↔j∈pend.map (·.1)\/j∈l)
def SegC.float{fl ft:List Nat}{listed:Array Bool}{pend:List (Nat×Value)}{l:List Nat}{r:Option Nat}{R:Hp}{G:List Qj}(h:SegC c ops Q L fl ft b listed a w pend (i::l) r E R G)(hi:i∈fl):
  ∃v E',SegC c ops Q L fl ft b listed a w ((i,v)::pend) l r E' R G:=by
 let⟨h1,h2,h3⟩:=fR h.sp;rw[an hi]at h3;rcases h.sj with⟨_,v,E',hsp,hsp0,hsj⟩|⟨hn,_⟩
 .let⟨hlt,hns,hself⟩:=h.lb i Si;let⟨q0,hf'⟩:=QK.spec hns hsp h.fr;have hnd:=h.nd;have hne:∀x∈pend,x.1≠i:=λx hx he=>by
   rw[Hb]at hnd;exact hnd.2.2 x.1 (Gu.2 ⟨x,hx,rfl⟩) i Si he
  have hvirt:Yd ops a ((i,v)::pend)=(Yd ops a pend).put (XZ ops i) v:=rfl;refine⟨v,E',?_,?_,?_,?_,λj hj=>h.lb j (by simp[hj]),h3,hsj,hf',h.sat,?_,?_,h.bk,λj hj=>?_⟩
  .intro x hx;rcases Gn.1 hx with rfl|hx
   .exact⟨hi,hlt,hns,hself hi⟩
   exact h.pf x hx
  .intro x hx y hy hxy;rcases Gn.1 hx with rfl|hx
   .rcases Gn.1 hy with rfl|hy;.exact Gr rfl hxy
    have:=h.pl y hy i Si;exact⟨this.2.2.2,this.2.2.1⟩
   rcases Gn.1 hy with rfl|hy;.have:=h.pl x hx i Si;exact⟨.inl this.1,this.2.1⟩
   exact h.pp x hx y hy hxy
  .intro x hx j hj;rcases Gn.1 hx with rfl|hx
   .exact h2 j hj (.inl hi)
   exact h.pl x hx j (by simp[hj])
  .rw[Hf,HW];rw[Hb]at hnd;let⟨n1,n2,n3⟩:=hnd;let⟨n4,n5⟩:=Id.1 n2;refine Id.2 ⟨λhm=>?_,Hb.2 ⟨n1,n5,λu hu v hv=>n3 u hu v (by simp[hv])⟩⟩;rcases GE.1 hm with hm|hm
   .let⟨x,hx,he⟩:=Gu.1 hm;exact hne x hx he
   exact n4 hm
  .intro x hx;rw[hvirt];rcases Gn.1 hx with rfl|hx
   .exact QK.put (hself hi) q0
   exact QK.put (h.pl x hx i Si).1 (h.qk x hx)
  .intro x hx hft;rw[hvirt];rcases Gn.1 hx with rfl|hx
   .exact QK.put (hself hi) (QK.spec hns (hsp0 hft) h.fr).1
   exact QK.put (h.pl x hx i Si).1 (h.q0 x hx hft)
  rw[h.un j hj];simp[Hf,Gn];constructor;.rintro(h|h|h)<;>simp[h]
  rintro((h|h)|h)<;>simp[h]
 exact Gr hi hn
def SegC.sated{fl ft:List Nat}{b:Nat}{listed:Array Bool}{a:Act}{w:World}{R:Hp}{G:List Qj}:∀{l:List Nat} {pend:List (Nat×Value)} {r:Option Nat} {E:Env},SegC c ops Q L fl ft b listed a w pend l r E R G->
  ∃pend' l' r' E',SegC c ops Q L fl ft b listed a w pend' l' r' E' R G/\(l'=[]\/∃k t,l'=k::t/\k∉fl)/\pend'.length+l'.length=pend.length+l.length
 |[],pend,r,E,h=>⟨pend,[],r,E,h,.inl rfl,rfl⟩
 |i::l,pend,r,E,h=>by
  by_cases hi:i∈fl
  .let⟨v,E',h'⟩:=h.float hi
   let⟨p2,l2,r2,E2,h2,h3,h4⟩:=SegC.sated h'
   exact⟨p2,l2,r2,E2,h2,h3,by rw[h4];simp;omega⟩
  .exact⟨pend,i::l,r,E,h,.inr ⟨i,l,rfl,hi⟩,rfl⟩
def xA{fl ft:List Nat}(hlow:iS ops=true):∀(fuel:Nat) (listed:Array Bool) (a:Act) (w:World) (pend:List (Nat×Value)) (l:List Nat) (r:Option Nat) (E:Env) (R:Hp) (L G:List Qj),
  listed.size=ops.size->Closed1 ops listed->SegC c ops Q L fl ft b listed a w pend l r E R G->(l=[]\/∃k t,l=k::t/\k∉fl)->pend.length+l.length<=fuel->wpAny c.P .any ops Q fuel listed a w:=by
 intro fuel;induction fuel with
 |zero=>
  intro listed a w pend l r E R L G hs hc h _ hf;have e1:=Hk (l:=pend) Om;have e2:=Hk (l:=l) Om;subst e1 e2;have hr:Region.ready .any ops listed=[]:=by
   cases hr:Region.ready .any ops listed with
   |nil=>rfl
   |cons j t=>
    have hj:j∈Region.ready .any ops listed:=by rw[hr];simp
    obtain⟨h0,o,ho,_⟩:=mem_ready.1 hj;have hlt:=(G9.1 ho).1;have hu:listed.getD j false=false:=by
     rw[GL]at h0|-;rw[Ht Om]at h0|-;simpa using h0
    have:=(h.un j hlt).1 hu;simp at this
  exact wpAny_done hr (h.sj _ _ h.fr h.sat) 0
 |succ fuel ih=>
  intro listed a w pend l r E R L G hs hc h hsat hf;by_cases hall:pend=[]/\l=[]
  .obtain⟨rfl,rfl⟩:=hall;have hr:Region.ready .any ops listed=[]:=by
    cases hr:Region.ready .any ops listed with
    |nil=>rfl
    |cons j t=>
     have hj:j∈Region.ready .any ops listed:=by rw[hr];simp
     obtain⟨h0,o,ho,_⟩:=mem_ready.1 hj;have hlt:=(G9.1 ho).1;have hu:listed.getD j false=false:=by
      rw[GL]at h0|-;rw[Ht Om]at h0|-;simpa using h0
     have:=(h.un j hlt).1 hu;simp at this
   exact wpAny_done hr (h.sj _ _ h.fr h.sat) (fuel+1)
  have hpu:∀y∈pend,listed.getD y.1 false=false:=λy hy=>(h.un _ (h.pf y hy).2.1).2 (.inl (Gu.2 ⟨y,hy,rfl⟩));have hlu:∀j∈l,listed.getD j false=false:=λj hj=>(h.un _ (h.lb j hj).1).2 (.inr hj);refine⟨λhr=>?_,λi hi=>?_⟩
  .exfalso;have:∃j,j<ops.size/\listed.getD j false=false:=by
    cases hpe:pend with
    |cons y p=>exact⟨y.1,(h.pf y (by rw[hpe];simp)).2.1,hpu y (by rw[hpe];simp)⟩
    |nil=>cases hle:l with
     |cons k p=>exact⟨k,(h.lb k (by rw[hle];simp)).1,hlu k (by rw[hle];simp)⟩
     |nil=>exact Gr ⟨hpe,hle⟩ hall
   obtain⟨j,hj,hu⟩:=this;obtain⟨k,hk⟩:=jG hlow hs j hj hu;rw[hr]at hk;cases hk
  obtain⟨h0,o,ho,hdeps⟩:=mem_ready.1 hi;have hilt:i<ops.size:=(G9.1 ho).1;have hu:listed.getD i false=false:=by
   rw[GL]at h0|-;rw[Ht Om]at h0|-;simpa using h0
  have hanc:∀j,ZH ops ops.size i j=true->listed.getD j false=true:=λj hj=>aW hc _ i j hj λo' ho'=>by rw[ho]at ho';cases ho';exact hdeps
  have hs':(listed.setIfInBounds i true).size=ops.size:=by simpa using hs
  have hc':Closed1 ops (listed.setIfInBounds i true):=hc.set hs hi;have hgd:∀j,(listed.setIfInBounds i true).getD j false=if j=i then true else listed.getD j false:=λj=>bT Om;have hod:o.dst=XZ ops i:=by simp[XZ,ho]
  by_cases hip:i∈pend.map (·.1)
  .obtain⟨x,hx,rfl⟩:=Gu.1 hip;obtain⟨p1,p2,rfl⟩:=J0 hx;have hnd:=h.nd;have hnot:∀y∈p1++p2,y.1≠x.1:=by
    intro y hy he;have hpn:=(Hb.1 hnd).1;simp only[Ie,Hf]at hpn;have hn:=Hb.1 hpn;rcases GE.1 hy with h|h
    .exact hn.2.2 y.1 (Gu.2 ⟨y,h,rfl⟩) x.1 Si he
    exact(Id.1 hn.2.1).1 (Gu.2 ⟨y,h,he⟩)
   have hsub:∀y∈p1++p2,y∈p1++x::p2:=λy hy=>by simp at hy|-;rcases hy with h|h<;>simp[h]
   have hlook:∀y∈p1++x::p2,Ym ops x.1 y.1=false:=by
    intro y hy;by_cases he:y.1=x.1;.rw[he];exact(h.pf x hx).2.2.2
    rcases(h.pp x hx y hy (Mk he)).1 with h|h
    .exact h
    have:=hanc _ h;rw[hpu y hy]at this;cases this
   have hqa:QK c ops R L x a:=QK.unvirt hlook (h.qk x hx);obtain⟨o',ho',hsel,hqq⟩:=hqa;rw[ho]at ho';cases ho';have hvt:=ja (ops:=ops) (x:=x) p1 p2 a λy hy e he=>yY (h.pf y (hsub y hy)).2.1 (h.pp y (hsub y hy) x hx (hnot y hy)).2 e he;have next:∀w',Sat c.σ R (L++G) w'->wpAny c.P .any ops Q fuel (listed.setIfInBounds x.1 true) (a.put o.dst x.2) w':=by
    intro w' hw';rw[hod];refine ih _ _ _ (p1++p2) l r E R L G hs' hc' ⟨λy hy=>h.pf y (hsub y hy),λy hy z hz=>h.pp y (hsub y hy) z (hsub z hz),λy hy=>h.pl y (hsub y hy),?_,h.lb,h.sp,h.sj,by rw[<-hvt];exact h.fr,hw',λy hy=>by rw[<-hvt];exact h.qk y (hsub y hy),λy hy hft=>by rw[<-hvt];exact h.q0 y (hsub y hy) hft,h.bk,λj hj=>?_⟩ hsat (by simp at hf|-;omega)
    .have hp:(p1.map (·.1)++(p2.map (·.1)++l)).Nodup:=by
      simp only[Ie,Hf,GA,HW]at hnd;have hn:=Hb.1 hnd;exact Hb.2 ⟨hn.1,(Id.1 hn.2.1).2,λu hu v hv=>hn.2.2 u hu v (by simp at hv|-;exact .inr hv)⟩
     simpa[Ie,GA]using hp
    rw[hgd];by_cases hji:j=x.1
    .rw[an hji];simp only[IA,false_iff,LC];subst hji;refine⟨λh=>?_,λhm=>?_⟩;.obtain⟨y,hy,he⟩:=Gu.1 h;exact hnot y hy he
     exact(Hb.1 hnd).2.2 x.1 (Gu.2 ⟨x,hx,rfl⟩) x.1 hm rfl
    rw[ac hji,h.un j hj];simp only[Ie,Hf,GE,Gn];constructor;.rintro((h|h|h)|h)<;>first|exact Gr h hji|simp[h]
    rintro((h|h)|h)<;>simp[h]
   unfold wpOp;rw[ho];simp only;cases hwt:Region.wanted o (yielded ops a.tmps)with
   |true=>
    rw[an rfl];refine .inl (Kh (C:=Sat c.σ R (L++G)) (K:=λa'=>a'=a.put o.dst x.2) h.sat (λa' w' hw' ha'=>by subst ha';exact next w' hw') ⟨x.2,λw' hw'=>?_,rfl⟩);rcases hqq R (Hp.le_refl R) G w' hw' with h|h
    .exact h.2
    rw[hwt]at h;cases h.1
   |false=>
    rw[ac Dc];rcases hqq R (Hp.le_refl R) G w h.sat with h1|h1
    .rw[hwt]at h1;cases h1.1
    have:=next w h.sat;rw[h1.2]at this;exact this
  have hmem:i∈l:=((h.un i hilt).1 hu).resolve_left hip;rcases hsat with rfl|⟨k,t,rfl,hk⟩
  .cases hmem
  obtain⟨s1,s2,s3⟩:=fR h.sp;rw[ac hk]at s3;have hik:i=k:=by
   rcases Gn.1 hmem with e|hm;.exact e
   exfalso;obtain⟨j,hj,ha⟩:=iG s3 hm;have:=hanc j ha;rw[hlu j (by rcases hj with rfl|hj<;>simp[*])]at this;cases this
  subst hik;rcases h.sj with⟨hn,_⟩|⟨_,o',ho',hstep⟩
  .exact Gr hn hk
  rw[ho]at ho';cases ho';have hlk:∀y∈pend,∀d,XZ ops y.1=some d->d∉o.looksAt ops:=by
   intro y hy;refine aq ho ?_;rcases(h.pl y hy i Si).2.2.2 with h|h
   .exact h
   have:=hanc _ h;rw[hpu y hy]at this;cases this
  have hsel:=zo ho (h.lb i Si).2.1;have hst:=hstep _ w h.fr h.sat;rw[aa hlk]at hst;have hvp:∀u,Yd ops (a.put o.dst u) pend=(Yd ops a pend).put o.dst u:=λu=>bN pend a λy hy e he=>by
   rw[hod]at he;exact yY (h.pf y hy).2.1 (h.pl y hy i Si).2.1 e he
  have next:∀u w' E' R2 L2 G',(L2=L\/(i=b/\L2=[]))->R.le R2->Fr c.n E' ((Yd ops a pend).put o.dst u)->Sat c.σ R2 (L2++G') w'->SB c ops Q fl ft b t E' R2 L2 G'->
    wpAny c.P .any ops Q fuel (listed.setIfInBounds i true) (a.put o.dst u) w':=by
   intro u w' E' R2 L2 G' hL2 hle hE' hw' hX'
   have hq2:∀y∈pend,QK c ops R L2 y (Yd ops a pend):=λy hy=>by
    rcases hL2 with rfl|⟨hib,rfl⟩
    .exact h.qk y hy
    .rcases h.bk y.1 (h.pf y hy).1 with hft|ha
     .exact h.q0 y hy hft
     .have:=hanc y.1 (by rw[hib];exact ha)
      rw[hpu y hy]at this;cases this
   have hnd:=h.nd
   have h2:SegC c ops Q L2 fl ft b (listed.setIfInBounds i true) (a.put o.dst u) w' pend t (some i) E' R2 G':=by
    refine⟨h.pf,h.pp,λy hy j hj=>h.pl y hy j (by simp[hj]),?_,λj hj=>h.lb j (by simp[hj]),s3,hX',by rw[hvp];exact hE',hw',λy hy=>?_,λy hy hft=>?_,h.bk,λj hj=>?_⟩
    .have hn:=Hb.1 hnd
     exact Hb.2 ⟨hn.1,(Id.1 hn.2.1).2,λu hu v hv=>hn.2.2 u hu v (by simp[hv])⟩
    .rw[hvp,hod]
     exact QK.put (h.pl y hy i Si).1 ((hq2 y hy).mono hle)
    .rw[hvp,hod]
     exact QK.put (h.pl y hy i Si).1 ((h.q0 y hy hft).mono hle)
    .rw[hgd]
     by_cases hji:j=i
     .rw[an hji]
      simp only[IA,false_iff,LC]
      subst hji
      exact⟨hip,λhm=>(Id.1 (Hb.1 hnd).2.1).1 hm⟩
     .rw[ac hji,h.un j hj]
      simp only[Gn]
      constructor
      .rintro(h|h|h)<;>first|exact Gr h hji|simp[h]
      .rintro(h|h)<;>simp[h]
   obtain⟨p3,l3,r3,E3,h3,h4,h5⟩:=h2.sated
   exact ih _ _ _ p3 l3 r3 E3 R2 L2 G' hs' hc' h3 h4 (by rw[h5];simp at hf;omega)
  unfold wpOp;rw[ho];simp only;cases hwt:Region.wanted o (yielded ops a.tmps)with
  |true=>
   rw[hwt,an rfl]at hst;rw[an rfl];refine .inl ?_;unfold Oper.wp at hst|-;rw[aj hsel hlk]at hst;refine mh hst ?_ ?_;.rintro u w' ⟨u',E',R2,L2,G',hL2,hle,he,h1,h2,h3⟩;exact next u w' E' R2 L2 G' hL2 hle h1 h2 h3
   rintro q w' ⟨u',E',R2,L2,G',hL2,hle,he,h1,h2,h3⟩;have:=h1.dfs;cases hd2:o.dst<;>simp[Act.put,hd2]at this
  |false=>
   rw[hwt,ac Dc]at hst;rw[ac Dc];obtain⟨E',R2,L2,G',hL2,hle,h1,h2,h3⟩:=hst;exact next undef w E' R2 L2 G' hL2 hle h1 h2 h3
end
section
variable{c:Cx}{l:List Oper}{Q:Exit->Act->World->Prop}{E:Env}{R:Hp}{L:List Qj}
def EN{id:Nat}(fl ft:List Nat)(b:Nat)(is:List Nat)(G0:List Qj){L0:List Qj}(hL:Sub L0 (L++G0))(hm:c.P.follows .mixedOrders=true)(hB:DN l.toArray fl is=true)(hbk:ES l.toArray fl ft b=true)
  (h:SB c l.toArray Q fl ft b is E R L G0):CJ c (.region id l.toArray true) Q E R L0:=by
 have hB':=hB;simp only[DN,G6,Hm,HX,HR]at hB';let⟨⟨⟨⟨⟨hlow,hcover⟩,hnd⟩,hlt⟩,hself⟩,hP⟩:=hB';intro a w hf hs;refine wp_region_any hm ?_;have hrep:∀j,(Array.replicate l.toArray.size false).getD j false=false:=λj=>by
  rw[GL,Ka];split<;>rfl
 have hI:SegC c l.toArray Q L fl ft b (Array.replicate l.toArray.size false) a w.drew [] is none E R G0:=by
  refine⟨λx hx=>(by cases hx),λx hx=>(by cases hx),λx hx=>(by cases hx),by simpa using hnd,λj hj=>?_,hP,h,hf,(hs.sub hL).drew,λx hx=>(by cases hx),λx hx=>(by cases hx),λx hx=>?_,λj hj=>?_⟩;.have:=hlt j hj;exact⟨Hw (HM _) (Gz this.1),this.2,λhfl=>hself j hfl⟩
  .unfold ES at hbk;rw[Hm]at hbk;simpa using hbk x hx
  rw[hrep];have:=hcover j (by simpa using hj);simp only[Ky]at this;simp[this]
 let⟨p3,l3,r3,E3,h3,h4,h5⟩:=hI.sated;refine xA hlow _ _ _ _ p3 l3 r3 E3 R L G0 Si (λi o _ hl=>(by rw[hrep]at hl;cases hl)) h3 h4 ?_;rw[h5];simp only[Lv,H4];exact ar _ _ hnd λx hx=>Hw (HM _) (Gz (hlt x hx).1)
variable{fl ft is:List Nat}{b:Nat}{G:List Qj}
def fS(hi:i∈fl)(hp:i∉ft)(ho:zY l i=some o)(hd:o.dst=some d)(hn:Nat.blt d c.n=true)(hw:Wn c l.toArray E o true)(y:∀R',R.le R'->∀G,Yld c E R' (L++G) o v)
  (h:SB c l.toArray Q fl ft b is ((d,v)::E) R L G):SB c l.toArray Q fl ft b (i::is) E R L G:=
 .inl ⟨hi,v,_,⟨o,d,by rw[jR]at ho;simpa using ho,hd,hn,rfl,.inl ⟨hw,y⟩⟩,λh=>Gr h hp,h⟩
def yH(hi:i∈fl)(ho:zY l i=some o)(hd:o.dst=some d)(hn:Nat.blt d c.n=true)(hw:Wn c l.toArray E o true)(y:∀R' G,Yld c E R' G o v)
  (h:SB c l.toArray Q fl ft b is ((d,v)::E) R L G):SB c l.toArray Q fl ft b (i::is) E R L G:=
 .inl ⟨hi,v,_,⟨o,d,by rw[jR]at ho;simpa using ho,hd,hn,rfl,.inl ⟨hw,λR' _ G=>y R' _⟩⟩,λ_=>⟨o,d,by rw[jR]at ho;simpa using ho,hd,hn,rfl,.inl ⟨hw,λR' _ G=>y R' _⟩⟩,h⟩
def DQ(h:EJ c (Q .normal) E R (L++G)):SB c l.toArray Q fl ft b [] E R L G:=h
def BK(c:Cx)(ops:Array Oper)(R:Hp)(L:List Qj)(Q:Exit->Act->World->Prop)(fl ft:List Nat)(b i:Nat)(is:List Nat)(a:Act)(w:World):Prop:=
 ∃E' R' L' G',(L'=L\/(i=b/\L'=[]))/\R.le R'/\Fr c.n E' a/\Sat c.σ R' (L'++G') w/\SB c ops Q fl ft b is E' R' L' G'
def oi(hi:i∉fl)(ho:zY l i=some o)
  (h:RJ c l.toArray (Exit.then (BK c l.toArray R L Q fl ft b i is) (λ_ _ _=>False)) [o] E R (L++G)):SB c l.toArray Q fl ft b (i::is) E R L G:=by
 refine .inr ⟨hi,o,by rw[jR]at ho;simpa using ho,λa w hf hs=>?_⟩;have:=fD (Q':=λ_ _ _=>False) (h a w hf hs) (K':=BK c l.toArray R L Q fl ft b i is) (λ_ _ h=>h);split;.rename_i hw;rw[an hw]at this;exact JB (λa' w' ⟨⟨u,hu⟩,E',R',L',G',h0,h1,h2,h3,h4⟩=>⟨u,E',R',L',G',h0,h1,hu,h2,h3,h4⟩) (nN this λa' w' ⟨E',R',L',G',_,_,h1,_⟩=>h1.dfs)
 rename_i hw;rw[ac hw]at this;let⟨E',R',L',G',h0,h1,h2,h3,h4⟩:=this;exact⟨E',R',L',G',h0,h1,h2,h3,h4⟩
def AU{R1:Hp}{Qx:Exit->Act->World->Prop}{G':List Qj}(hR:R.le R1)(hS:Sub M (L++G'))(h:SB c ops Q fl ft b is E R1 L G'):
  RJ c ops (Exit.then (BK c ops R L Q fl ft b i is) Qx) [] E R1 M:=
 Qd λa w hf hs=>⟨E,R1,L,G',.inl rfl,hR,hf,hs.sub hS,h⟩
def DV{R1:Hp}{Qx:Exit->Act->World->Prop}(hR:R.le R1)(h:SB c ops Q fl ft b is E R1 [] M):
  RJ c ops (Exit.then (BK c ops R L Q fl ft b b is) Qx) [] E R1 M:=
 Qd λa w hf hs=>⟨E,R1,[],M,.inr ⟨rfl,rfl⟩,hR,hf,hs,h⟩
end
set_option maxRecDepth 100000
set_option maxHeartbeats 4000000
def Yt(l:List Int):List Value:=l.map (Value.int .u64 ·)
def eq(l:List Int):(Yt l).length=l.length:=by simp[Yt]
def dP:∀(l:List Value) (n:Nat),ZO l n=l[n]?
 |[],n=>by simp[ZO]
 |x::l,0=>by simp[ZO]
 |x::l,n+1=>by simp[ZO,dP l n]
def dC(l:List Int)(k:Nat)(z:Int)(hz:z=k)(hk:k<l.length):ZO (Yt l) (z.toNat*1)=some (.int .u64 (l.getD k 0)):=by
 subst hz;rw[dP,Yt,HD,show((k:Nat):Int).toNat*1=k by simp,b7 hk];simp[Gt,b7 hk]
def rW(l:List Int)(k:Nat)(z x:Int)(hz:z=k):yh (Yt l) (z.toNat*1) (.int .u64 x)=Yt (l.set k x):=by
 subst hz;rw[je,show((k:Nat):Int).toNat*1=k by simp,Yt,Yt,KY]
def bP(l:List Int)(j:Nat):List Int:=(l.set j (l.getD (j-1) 0)).set (j-1) (l.getD j 0)
def ru(l:List Int)(h:j<l.length):(bP l j).Perm l:=by
 have h1:l.getD (j-1) 0=l[j-1]'Om:=by simp[Gt,b7 (show j-1<l.length by omega)]
 have h2:l.getD j 0=l[j]:=by simp[Gt,b7 h]
 unfold bP;rw[h1,h2];exact List.set_set_perm h Om
def tQ(l:List Int)(h:j<l.length)(x:Nat):(bP l j).getD x 0=if x=j-1 then l.getD j 0 else if x=j then l.getD (j-1) 0 else l.getD x 0:=by
 unfold bP;simp[Gt,IF,Hy];by_cases h1:x=j-1;.subst h1;simp[show j-1<l.length by omega]
 by_cases h2:x=j;.subst h2;simp[show¬x-1=x by omega,h];intro h3;omega
 simp[h1,h2,show¬j-1=x by omega,show¬j=x by omega]
def rf(l:List Int)(i j:Nat):Prop:=∀p q,p<q->q<=i->q≠j->l.getD p 0<=l.getD q 0
def nf(l:List Int)(i:Nat):Prop:=∀p q,p<q->q<i->l.getD p 0<=l.getD q 0
def wh(h:nf l i):rf l i i:=λp q h1 h2 h3=>h p q h1 Om
def xY(h:rf l i j)(hj:0<j)(hi:j<=i)(hl:i<l.length)(hlt:l.getD j 0<l.getD (j-1) 0):rf (bP l j) i (j-1):=λp q h1 h2 h3=>by
 have g:=tQ l (show j<l.length by omega);rw[g p,g q];by_cases q1:q=j
 .subst q1;rw[ac h3,an rfl];by_cases p1:p=q-1;.rw[an p1];omega
  rw[ac p1,ac Om];exact h p (q-1) Om Om Om
 rw[ac h3,ac q1];by_cases p1:p=j-1;.rw[an p1];exact h j q Om h2 q1
 rw[ac p1];by_cases p2:p=j;.rw[an p2];subst p2;exact h (p-1) q Om h2 q1
 rw[ac p2];exact h p q h1 h2 q1
def sl(h:rf l i j)(he:j=0\/¬l.getD j 0<l.getD (j-1) 0):nf l (i+1):=λp q h1 h2=>by
 by_cases hq:q=j
 .subst hq;rcases he with he|he
  .omega
  by_cases hp:p=q-1;.subst hp;omega
  have:=h p (q-1) Om Om Om;omega
 exact h p q h1 Om hq
def Fw(a:Int):QTri prog 144 [.int .u64 a] R [] (.bool false):=by
 refine Tri.q2 (To func144 ntmps144 λ_ F _ r_ _ _=>?_);try simp[cB]
 refine cS λ_ k1=>Qc (Ps (Qd (k1 (cS λ_ k2=>Qc (Pm (Pm (Pa Yp (Ps (Qd (k2 (Qg (r_ (Es results144 [] ?_)))))))))))));exact⟨by simp[QI],rfl⟩
def Ej(a b:Int):QTri prog 130 [.int .u64 a,.int .u64 b] R [] (.bool (decide (a<b))):=by
 refine Tri.q2 (To func130 ntmps130 λ_ F _ r_ _ _=>?_);try simp[cB]
 exact cS λ_ k1=>Qc (Ps (Qd (k1 (cS λ_ k2=>Qc (Pm (Pa (Ca call144 (Fw _)) (Pm (Pk (Pk (Pk (Pa Qn (Pm (Pb Qf (Pb Qf (Pb QR (Pa Qn (Ps (Qd (k2 (Qg (r_ (Es results130 [] ⟨rfl,rfl⟩))))))))))))))))))))))
def wD(v:Value)(l0:List Int)(hvo:v.oneCell'=true)(hn:l0.length<=12):Tri prog 124 [v,.int .i64 0,.int .i64 (l0.length:Int)] R [QN 36 1 v l0.length (Yt l0)]
  (λx R' L'=>∃l,l.Perm l0/\nf l l.length/\L'=[QN 36 1 v l0.length (Yt l)]):=by
 refine To func124 ntmps124 λ_ F _ _ n_ _=>?_
 try simp only[cB]
 refine cS λ_ k1=>Qc (Pm ?_)
 refine Pa Qz (Ps (Qd (k1 (Qp ?_))))
 have hll:=eq l0
 refine Lp (λ(x1:Nat×List Int)=>[(0,v),(1,.int .i64 0),(2,.int .i64 (l0.length:Int)),(6,.int .i64 (x1.1:Int))]) (λx1=>R) (λx1=>QN 36 1 v l0.length (Yt x1.2)::F) (λx1=>1<=x1.1/\x1.1<=l0.length+1/\x1.2.Perm l0/\nf x1.2 x1.1) (λx1=>l0.length+1-x1.1) (1,l0) (⟨Si,Si,.refl _,λp q h1 h2=>by simp at h2;omega⟩) ?_
 rintro⟨i,l⟩ ⟨hi1,hi2,hp,ho⟩
 try dsimp only
 dsimp only at hi1 hi2 hp ho
 refine cS λ_ k2=>cS λ_ k3=>Qc (Pm (Pm (Pa QR (Qd (k3 (Qi rfl (λhc12=>?_) (λhc12=>?_)))))))
 try simp only[dx]at hc12
 refine Qh (k2 (cS λ_ k5=>Qp (cS λ_ k6=>Qc (Pm (Ps (Qd (k6 (Qp (Lp (λ(x2:Nat×List Int)=>[(0,v),(1,.int .i64 0),(2,.int .i64 (l0.length:Int)),(6,.int .i64 (i:Int)),(7,.int .i64 (x2.1:Int))]) (λx2=>R) (λx2=>QN 36 1 v l0.length (Yt x2.2)::F) (λx2=>x2.1<=i/\x2.2.Perm l0/\rf x2.2 i x2.1) (λx2=>x2.1) (i,l) (⟨Si,hp,wh ho⟩) ?_)))))))))
 rintro⟨j,l2⟩ ⟨hj,hp2,ho2⟩
 try dsimp only
 dsimp only at hj hp2 ho2
 refine cS λ_ k7=>cS λ_ k8=>?_
 have hi3:i<l0.length:=by(try simp at hc12);omega
 have hl2:=hp2.length_eq
 have hjl:j<l2.length:=Om
 refine dW (Qa Qf (Qa (Qf rfl) (Qa (XG rfl rfl) (Qa (Qf rfl) (ZM 19 rfl (λhg19=>?_) (λhg19=>?_))))))
 have hj0:0<j:=by(try simp at hg19);omega
 refine Qb Qf ?_
 refine Qb Qf ?_
 refine Qb (Xn GR Gw) ?_
 refine Qb ((XC QO rfl Qm (dC l2 j _ rfl hjl))) ?_
 refine Qb Qf ?_
 refine Qb Qf ?_
 refine Qb ((Yld.to (u:=.int .i64 ((j-1:Nat):Int)) Zs (by congr 1;omega))) ?_
 refine Qb (Xn GR Gw) ?_
 refine Qb ((XC QO rfl Qm (dC l2 (j-1) _ rfl Om))) ?_
 refine Qb (Ca call130 (Ej _ _)) (Qa (Qq rfl rfl) (Xj (k8 ?_)))
 refine cE [0,1,2,6,7,30] (Qi rfl (λhc30=>?_) (λhc30=>?_))
 first|have hlt:l2.getD j 0<l2.getD (j-1) 0:=by simpa using hc30|skip
 refine Qh (k7 (cS λ_ k10=>Qp (EN (L:=[QN 36 1 v l0.length (Yt l2)]) [0,1,2,3,4,5,6,7,8,9,10,11,12,13,14] [0,1,2,3,4,5,6,7,10,11] 15 [0,1,2,3,4,5,6,7,8,9,10,11,12,13,14,15,16,17] _ Qw Kr Kr Kr (yH Dc rfl rfl rfl Qo (λR1 G=>Qf) (yH Dc rfl rfl rfl Qo (λR1 G=>Qf) (yH Dc rfl rfl rfl Qo (λR1 G=>Qf) (yH Dc rfl rfl rfl Qo (λR1 G=>Qf) (yH Dc rfl rfl rfl Qo (λR1 G=>(Yld.to (u:=.int .i64 ((j-1:Nat):Int)) Zs (by congr 1;omega))) (yH Dc rfl rfl rfl Qo (λR1 G=>Qf) (yH Dc rfl rfl rfl Qo (λR1 G=>Qf) (yH Dc rfl rfl rfl Qo (λR1 G=>(Yld.to (u:=.int .i64 ((j-1:Nat):Int)) Zs (by congr 1;omega))) (fS Dc Dc rfl rfl rfl Qo (λR1 hR1 G=>(Xn GR Gw)) (fS Dc Dc rfl rfl rfl Qo (λR1 hR1 G=>(XC QO rfl Qm (dC l2 (j-1) _ rfl Om))) (yH Dc rfl rfl rfl Qo (λR1 G=>Qf) (yH Dc rfl rfl rfl Qo (λR1 G=>Qf) (fS Dc Dc rfl rfl rfl Qo (λR1 hR1 G=>(Xn GR Gw)) (fS Dc Dc rfl rfl rfl Qo (λR1 hR1 G=>(XC QO rfl Qm (dC l2 j _ rfl hjl))) (fS Dc Dc rfl rfl rfl Qo (λR1 hR1 G=>(Xn GR Gw)) (oi Dc rfl ?_)))))))))))))))))))
 try simp only[cC]
 refine qH (ys:=Yt (l2.set j (l2.getD (j-1) 0))) QO Qo rfl rfl rfl Qm (by rw[eq];simp;omega) (rW _ _ _ _ rfl) Om (DV QB (oi Dc rfl ?_))
 try simp only[cC]
 refine Pa (Xn GR Gw) (AU QB (Sub.refl _) (oi Dc rfl ?_))
 try simp only[cC]
 refine qH (ys:=Yt (bP l2 j)) QO Qo rfl rfl rfl Qm (by rw[eq];simp;omega) (rW _ _ _ _ rfl) Om (AU QB (Sub.refl _) (DQ ?_))
 try simp only[cC]
 refine k10 (Qc (Pm ?_))
 refine Pa ((Yld.to (u:=.int .i64 ((j-1:Nat):Int)) Zs (by congr 1;omega))) (Ps (Qd (ro rfl (rd ((j-1,bP l2 j)) (⟨by dsimp only;omega,(ru l2 hjl).trans hp2,xY ho2 hj0 hj Om hlt⟩) Do))))
 first|have he2:j=0\/¬l2.getD j 0<l2.getD (j-1) 0:=.inr (by simpa using hc30)|skip
 refine QG (k5 (Qc (Pm ?_)))
 refine Pa Qz (Ps (Qd (ro rfl (rd ((i+1,l2)) (⟨by dsimp only;omega,by dsimp only;omega,hp2,sl ho2 he2⟩) Do))))
 have he2:j=0\/¬l2.getD j 0<l2.getD (j-1) 0:=.inl (by(try simp at hg19);omega)
 refine Qk ?_
 refine Qk ?_
 refine Qk ?_
 refine Qk ?_
 refine Qk ?_
 refine Qk ?_
 refine Qk ?_
 refine Qk ?_
 refine Qk ?_
 refine Qk (Qa (Qn rfl rfl) (Xj (k8 ?_)))
 refine cE [0,1,2,6,7,30] ?_
 refine Qt rfl (QG (k5 (Qc (Pm ?_))))
 refine Pa Qz (Ps (Qd (ro rfl (rd ((i+1,l2)) (⟨by dsimp only;omega,by dsimp only;omega,hp2,sl ho2 he2⟩) Do))))
 try simp only[dx]at hc12
 exact QG (n_ (Et results124 [QN 36 1 v l0.length (Yt l)] (Hp.le_refl _) ⟨l,hp,λp q h1 h2=>ho p q h1 (by(try simp at hc12);have:=hp.length_eq;omega),rfl⟩))
def Fh(v:Value)(l0:List Int)(k:Int)(hvo:v.oneCell'=true)(hn:l0.length<=12):Tri prog 120 [v,.int .i64 0,.int .i64 (l0.length:Int),.int .i64 k] R [QN 36 1 v l0.length (Yt l0)]
  (λx R' L'=>∃l,l.Perm l0/\nf l l.length/\L'=[QN 36 1 v l0.length (Yt l)]):=by
 refine To func120 ntmps120 λ_ F _ r_ _ _=>?_;try simp[cB]
 refine cS λ_ k1=>Qc (Ps (Qd (k1 (cS λ_ k2=>Qc (Ps (Qd (k2 (Qp (Lp (λ(x1:Nat)=>[(0,v),(1,.int .i64 0),(2,.int .i64 (l0.length:Int))]) (λx1=>R) (λx1=>QN 36 1 v l0.length (Yt l0)::F) (λx1=>True) (λx1=>x1) 0 (trivial) ?_)))))))));rintro x hI2;try dsimp only
 refine Qp (cS λ_ k3=>Qc (Pm (Pm ?_)));refine Pa Zs (Ps (Qd (k3 (cS λ_ k4=>cS λ_ k5=>Qc ?_))));refine Pm ?_;refine Pa ((Yld.to (u:=.bool true) aL (by rw[IS Om]))) (Qd (k5 (QD rfl (cS λ_ k6=>Qc (Pm (Pm (Pm (Ra call124 (wD v l0 hvo hn) ?_))))))));rintro r R2 L' hR2 ⟨l,hp,hs,rfl⟩;try simp[cB]
 refine Qd (k6 (cE [] ?_));exact Qg (r_ (Er results120 [QN 36 1 v l0.length (Yt l)] hR2 ⟨l,hp,hs,rfl⟩))
def ET(n:Nat)(hn:n<18446744073709551616):QTri prog 121 [.int .u64 (n:Int)] R [] (.int .i64 (Zn n:Int)):=by
 refine Tri.q2 (To func121 ntmps121 λ_ F _ r_ _ _=>?_);try simp[cB]
 exact cS λ_ k1=>Qc (Ps (Qd (k1 (cS λ_ k2=>Qt rfl (Qh (k2 (cS λ_ k3=>Qc (Pm (Pa (Ca call134 (sC n hn)) (Ps (Qd (k3 (Qg (r_ (Es results121 [] ⟨rfl,rfl⟩)))))))))))))))
def DH(v:Value)(l0:List Int)(hvo:v.oneCell'=true)(hn:l0.length<=12):Tri prog 110 [v] R [QN 36 1 v l0.length (Yt l0)]
  (λx R' L'=>∃l,l.Perm l0/\nf l l.length/\L'=[QN 36 1 v l0.length (Yt l)]):=by
 refine To func110 ntmps110 λ_ F _ _ n_ _=>?_;try simp[cB]
 refine cS λ_ k1=>Qc (Pm (Pa (Zf GR) (Ps (Qd (k1 (Qc (Pm (Pm (Pm ?_)))))))));refine Pa ((XE HA underlying147 rfl (by(simp[IntKind.min,IntKind.max,IntKind.signed,IntKind.bits,GP,H3,H7];omega)))) (Pa (Ca call121 (ET l0.length Om)) (Ra call120 (Fh v l0 _ hvo hn) ?_));rintro r R2 L' hR2 ⟨l,hp,hs,rfl⟩;try simp[cB]
 exact Qd (n_ (Et results110 [QN 36 1 v l0.length (Yt l)] hR2 ⟨l,hp,hs,rfl⟩))
structure ND where
 id:Nat
 n:Nat
 g:LG
 role:Int
 leader:Int
 commit:Int
 patience:Int
 votes:List Int
 peers:List (Int×Int)
 out:List Msg
 down:Bool
variable{x:ND}
abbrev NS:=ND×DK
def ND.start(id n:Nat)(g:LG):ND:=⟨id,n,g,0,-1,g.base,0,[],[],[],false⟩
def ND.send(x:ND)(m:Msg):ND:={x with out:=x.out++[{m with frm:=x.id,term:=x.g.term}]}
def ND.tAt(x:ND)(i:Int):Int:=(x.g.termAt i).getD 0
def ND.others(x:ND):List Nat:=(List.range x.n).filter (λi=>i !=x.id)
def ND.nxt(x:ND)(to:Nat):Int:=(x.peers.getD to (0,0)).1
def ND.mat(x:ND)(to:Nat):Int:=(x.peers.getD to (0,0)).2
def ND.feedMsg(x:ND)(to:Nat):Msg:=
 if x.nxt to<=x.g.base then{Msg.zero with kind:=4,to:=to,index:=x.g.base,logTerm:=x.g.baseT,state:=x.g.state}
 else{Msg.zero with kind:=2,to:=to,index:=x.nxt to-1,logTerm:=x.tAt (x.nxt to-1),commit:=x.commit,es:=(x.g.all.drop (x.nxt to-x.g.base-1).toNat).take 8}
def ND.feed(x:ND)(to:Nat):ND:=x.send (x.feedMsg to)
def ND.feedAll(x:ND):ND:=x.others.foldl ND.feed x
def ND.reach(x:ND):List Int:=x.g.last::x.others.map x.mat
def ND.mid(x:ND):Int:=(x.reach.mergeSort (λa b=>decide (a<=b))).getD ((x.n-1)/2) 0
def ND.count(x:ND):ND:=if x.mid>x.commit/\x.tAt x.mid=x.g.term then{x with commit:=x.mid}else x
def Xo(r:Bool×NS)(k:NS->Bool×NS):Bool×NS:=if r.1=true then k r.2 else r
def QY(s:NS)(r:Int×LG×DK):Bool×NS:=if r.1=0 then(true,({s.1 with g:=r.2.1},r.2.2))else(false,({s.1 with g:=r.2.1,down:=true},r.2.2))
def Xb(s:NS)(cmd:Bs):Bool×NS:=Xo (QY s (s.1.g.addD s.2 s.1.g.last [(s.1.g.term,cmd)])) λs=>(true,(s.1.count.feedAll,s.2))
def ND.wins(x:ND):ND:={x with role:=2,leader:=x.id,patience:=0,peers:=List.replicate x.n (x.g.last+1,0)}
def qM(s:NS):Bool×NS:=Xb (s.1.wins,s.2) []
def ND.stands(x:ND):ND:={x with role:=1,leader:= -1,patience:=0,votes:=[(x.id:Int)]}
def ND.askMsg(x:ND)(to:Nat):Msg:={Msg.zero with kind:=0,to:=to,index:=x.g.last,logTerm:=x.tAt x.g.last}
def ND.ask(x:ND)(to:Nat):ND:=x.send (x.askMsg to)
def ND.askAll(x:ND):ND:=x.others.foldl ND.ask x
def YF(s:NS):Bool×NS:=Xo (QY s (s.1.g.setTermD s.2 (s.1.g.term+1) s.1.id)) λs=>
 if s.1.n=1 then qM (s.1.stands,s.2)else(true,(s.1.stands.askAll,s.2))
def YA(id:Nat)(t:Int):Int:=10+(7*(id:Int)+3*t)%11
def tickN(s:NS):Bool×NS:=
 if s.1.role=2 then if s.1.patience+1>=3 then(true,({s.1 with patience:=0}.feedAll,s.2))else(true,({s.1 with patience:=s.1.patience+1},s.2))
 else if s.1.patience+1>=YA s.1.id s.1.g.term then YF ({s.1 with patience:=s.1.patience+1},s.2)else(true,({s.1 with patience:=s.1.patience+1},s.2))
def ND.good(x:ND)(m:Msg):Bool:=decide (m.logTerm>x.tAt x.g.last)||(decide (m.logTerm=x.tAt x.g.last)&&decide (m.index>=x.g.last))
def ND.grants(x:ND)(m:Msg):Bool:=decide (m.term=x.g.term)&&decide (x.role=0)&&(decide (x.g.vote= -1)||decide (x.g.vote=m.frm))&&x.good m
def ND.voteMsg(m:Msg)(ok:Bool):Msg:={Msg.zero with kind:=1,to:=m.frm,ok:=ok}
def ZY(s:NS)(m:Msg):Bool×NS:=
 if s.1.grants m=true then Xo (QY s (s.1.g.setTermD s.2 s.1.g.term m.frm)) λs=>(true,({s.1 with patience:=0}.send (ND.voteMsg m true),s.2))
 else(true,(s.1.send (ND.voteMsg m false),s.2))
def QS(l:List Int)(i:Int):List Int:=if i∈l then l else l++[i]
def YE(s:NS)(m:Msg):Bool×NS:=
 if¬s.1.role=1\/¬m.term=s.1.g.term\/m.ok=false then(true,s)
 else if 2*((QS s.1.votes m.frm).length:Int)>s.1.n then qM ({s.1 with votes:=QS s.1.votes m.frm},s.2)
 else(true,({s.1 with votes:=QS s.1.votes m.frm},s.2))
def ND.answer(x:ND)(m:Msg)(ok:Bool)(index:Int):ND:=x.send {Msg.zero with kind:=3,to:=m.frm,ok:=ok,index:=index}
def ND.fits(g:LG):List Qy->Int->Option (Int×List Qy)
 |[],_=>none
 |e::l,i=>if(g.at i).map (·.1)=some e.1 then ND.fits g l (i+1)else some (i,e::l)
def ND.cutM(x:ND)(m:Msg):Int×List Qy:=if m.index<x.g.base then(x.g.base,m.es.drop (x.g.base-m.index).toNat)else(m.index,m.es)
def ND.commits(x:ND)(m:Msg)(last:Int):ND:={x with commit:=max x.commit (min m.commit last)}
def qJ(s:NS)(m:Msg):Bool×NS:=
 if m.index<s.1.g.base/\(m.es.length:Int)<s.1.g.base-m.index then(true,(s.1.answer m true s.1.g.base,s.2))
 else if¬m.index<s.1.g.base/\¬s.1.g.termAt m.index=some m.logTerm then(true,(s.1.answer m false (min s.1.g.last (max m.index 1-1)),s.2))
 else
  let c:=s.1.cutM m
  let last:=c.1+c.2.length
  match ND.fits s.1.g c.2 (c.1+1)with
  |none=>(true,((s.1.commits m last).answer m true last,s.2))
  |some (i,l)=>if i<=s.1.commit then(true,s)
   else Xo (QY s (s.1.g.addD s.2 (i-1) l)) λs=>(true,((s.1.commits m last).answer m true last,s.2))
def ND.follows(x:ND)(m:Msg):ND:={x with role:=0,leader:=m.frm,patience:=0}
def ad(s:NS)(m:Msg):Bool×NS:=
 if m.index>s.1.commit then Xo (QY s (s.1.g.instD s.2 m.index m.logTerm m.state)) λs=>(true,({s.1 with commit:=m.index}.answer m true m.index,s.2))
 else(true,(s.1.answer m true s.1.commit,s.2))
def ZG(s:NS)(m:Msg):Bool×NS:=
 if m.term<s.1.g.term then(true,(s.1.answer m false 0,s.2))else if s.1.role=2 then(true,s)
 else if m.kind=2 then qJ (s.1.follows m,s.2) m else ad (s.1.follows m,s.2) m
def ND.setPeer(x:ND)(to:Nat)(p:Int×Int):ND:={x with peers:=x.peers.set to p}
def Ya(s:NS)(m:Msg):Bool×NS:=
 if¬s.1.role=2\/¬m.term=s.1.g.term then(true,s)
 else
  let to:=m.frm.toNat
  if m.ok=false then(true,((s.1.setPeer to (max (min (s.1.nxt to-1) (m.index+1)) (s.1.mat to+1),s.1.mat to)).feed to,s.2))
  else
   let k:=max (s.1.mat to) (min m.index s.1.g.last)
   let x:=(s.1.setPeer to (k+1,k)).count
   if k+1<=x.g.last then(true,(x.feed to,s.2))else(true,(x,s.2))
def ND.newTerm(x:ND):ND:={x with role:=0,leader:= -1}
def YB(s:NS)(m:Msg):Bool×NS:=
 if m.kind=0 then ZY s m else if m.kind=1 then YE s m else if m.kind=2\/m.kind=4 then ZG s m else if m.kind=3 then Ya s m else(true,s)
def Xz(s:NS)(m:Msg):Bool×NS:=
 if¬m.to=s.1.id\/m.frm=s.1.id\/m.frm<0\/m.frm>=s.1.n then(true,s)
 else if m.term>s.1.g.term then Xo (QY s (s.1.g.setTermD s.2 m.term (-1))) λs=>YB (s.1.newTerm,s.2) m
 else YB s m
def Xy(s:NS):Bool:=s.1.down||(s.1.g.down||s.2.down)
def Xw(s:NS)(f:NS->Bool×NS):List Msg×NS:=
 if Xy s=true then([],s)else if(f ({s.1 with out:=[]},s.2)).1=true then((f ({s.1 with out:=[]},s.2)).2.1.out,(f ({s.1 with out:=[]},s.2)).2)else([],(f ({s.1 with out:=[]},s.2)).2)
def mapG(es:Array MapEntry)(clock:Nat)(ik:IntKind)(f:Int->Option Value)(n:Nat):Prop:=
 MapKept.Stamped es clock/\(∀x∈es.toList,∃a,x.key=.int ik a)/\(∀a v,f a=some v↔∃x∈es.toList,x.key=.int ik a/\x.val=v)/\es.size=n
def qN(b:Nat)(ik:IntKind)(f:Int->Option Value)(n:Nat):Qj:=λh=>∃es clock,h b=some (.map es clock)/\mapG es clock ik f n
def oN(b:Nat)(o:Obj):Qj:=λh=>h b=some o
def yv(f:Int->Option Value)(a:Int)(v:Value):Int->Option Value:=λk=>if k=a then some v else f k
def uq(clock:Nat)(ik:IntKind):mapG #[] clock ik (λ_=>none) 0:=⟨MapKept.stamped_empty clock,Si,Si,rfl⟩
def mapG.isKey(h:mapG es clock ik f n):∀x∈es.toList,MapKept.IsKey (.int ik) x.key:=λx hx=>by
 let⟨a,e⟩:=h.2.1 x hx;rw[e];exact rfl
def mapG.push(h:mapG es clock ik f n){a:Int}(hn:∀x∈es.toList,x.key≠ .int ik a):mapG (es.push {key:=.int ik a,val:=v,born:=clock}) (clock+1) ik (yv f a v) (n+1)/\f a=none:=by
 let⟨h1,h2,h3,h4⟩:=h;have hfa:f a=none:=by
  cases hf:f a with
  |none=>rfl
  |some u=>obtain⟨x,hx,e,_⟩:=(h3 a u).1 hf;exact Gr e (hn x hx)
 refine⟨⟨MapKept.stamped_push h1 hn,?_,?_,by simp[h4]⟩,hfa⟩
 .intro x hx;simp only[Array.toList_push,GE,GO]at hx;rcases hx with hx|rfl
  .exact h2 x hx
  exact⟨a,rfl⟩
 intro k u;unfold yv;simp only[Array.toList_push,GE,GO];by_cases hk:k=a
 .subst hk;rw[an rfl];constructor;.intro e;cases e;exact⟨_,.inr rfl,rfl,rfl⟩
  rintro⟨x,hx|rfl,e1,e2⟩;.exact Gr e1 (hn x hx)
  rw[<-e2]
 rw[ac hk,h3];constructor;.rintro⟨x,hx,e1,e2⟩;exact⟨x,.inl hx,e1,e2⟩
 rintro⟨x,hx|rfl,e1,e2⟩;.exact⟨x,hx,e1,e2⟩
 cases e1;exact Gr rfl hk
def mapG.modify{es:Array MapEntry}{clock:Nat}{ik:IntKind}{f:Int->Option Value}{n:Nat}(h:mapG es clock ik f n){a:Int}{v:Value}{j:Nat}{e:MapEntry}(hj:es[j]?=some e)(he:e.key=.int ik a):
  mapG (es.modify j λe=>{e with key:=.int ik a,val:=v}) clock ik (yv f a v) n/\f a=some e.val:=by
 obtain⟨h1,h2,h3,h4⟩:=h;have hmem:e∈es.toList:=by rw[<-Iz]at hj;exact Gv hj
 have hkey:∀e',es[j]?=some e'->({e' with key:=.int ik a,val:=v}:MapEntry).key=e'.key:=λe' he'=>by rw[hj]at he';cases he';exact he.symm
 have hget:∀i,(es.modify j λe=>{e with key:=.int ik a,val:=v})[i]?=if j=i then(es[i]?).map (λe=>{e with key:=.int ik a,val:=v})else es[i]?:=λi=>by rw[Jb]
 have hnd:∀(i:Nat) (x:MapEntry),es[i]?=some x->x.key=.int ik a->i=j:=λi x hx hk=>by
  have h5:=h1.2.2;have hi:(es.toList.map (·.key))[i]?=some (.int ik a):=by simp[hx,hk]
  have hj':(es.toList.map (·.key))[j]?=some (.int ik a):=by simp[hj,he]
  have a1:=(Gj.1 hi).1;have a2:=(Gj.1 hj').1;rw[b7 a1]at hi;rw[b7 a2]at hj';exact(List.getElem_inj h5).1 ((GU hi).trans (GU hj').symm)
 refine⟨⟨MapKept.stamped_modify h1 _ _ (λ_ _=>rfl) (λe' _ he'=>hkey e' he'),?_,?_,by simp[h4]⟩,(h3 a e.val).2 ⟨e,hmem,he,rfl⟩⟩
 .intro x hx;obtain⟨i,hi,rfl⟩:=Ij hx;have hi2:=hget i;rw[<-Iz,b7 hi]at hi2;by_cases hij:j=i;.subst hij;rw[an rfl,hj]at hi2;simp only[JP,Hi]at hi2;rw[hi2];exact⟨a,rfl⟩
  rw[ac hij]at hi2;have hm':=hi2.symm;rw[<-Iz]at hm';exact h2 _ (Gv hm')
 intro k u;have hm:∀x,x∈(es.modify j λe=>{e with key:=.int ik a,val:=v}).toList↔∃i,(es.modify j λe=>{e with key:=.int ik a,val:=v})[i]?=some x:=λx=>by
  rw[Ik];constructor;.rintro⟨i,hi⟩;exact⟨i,by rw[<-Iz];exact hi⟩
  rintro⟨i,hi⟩;exact⟨i,by rw[Iz];exact hi⟩
 have hm0:∀x,x∈es.toList↔∃i,es[i]?=some x:=λx=>by
  rw[Ik];constructor;.rintro⟨i,hi⟩;exact⟨i,by rw[<-Iz];exact hi⟩
  rintro⟨i,hi⟩;exact⟨i,by rw[Iz];exact hi⟩
 unfold yv;by_cases hk:k=a
 .subst hk;rw[an rfl];constructor;.intro e0;cases e0;exact⟨{e with key:=.int ik k,val:=v},(hm _).2 ⟨j,by rw[hget,an rfl,hj];rfl⟩,rfl,rfl⟩
  rintro⟨x,hx,e1,e2⟩;obtain⟨i,hi⟩:=(hm x).1 hx;rw[hget]at hi;by_cases hij:j=i;.subst hij;rw[an rfl,hj]at hi;simp only[JP,Hi]at hi;rw[<-e2,<-hi]
  rw[ac hij]at hi;exact Gr (hnd i x hi e1).symm hij
 rw[ac hk,h3];constructor
 .rintro⟨x,hx,e1,e2⟩;obtain⟨i,hi⟩:=(hm0 x).1 hx;refine⟨x,(hm x).2 ⟨i,?_⟩,e1,e2⟩;rw[hget,ac];.exact hi
  rintro rfl;rw[hj]at hi;cases hi;rw[he]at e1;cases e1;exact hk rfl
 rintro⟨x,hx,e1,e2⟩;obtain⟨i,hi⟩:=(hm x).1 hx;rw[hget]at hi;by_cases hij:j=i;.subst hij;rw[an rfl,hj]at hi;simp only[JP,Hi]at hi;rw[<-hi]at e1;cases e1;exact Gr rfl hk
 rw[ac hij]at hi;exact⟨x,(hm0 x).2 ⟨i,hi⟩,e1,e2⟩
def Sat.map_cases(s:Sat σ R (qN b ik f n::L) w):∃es clock,mapG es clock ik f n/\Sat σ R (oN b (.map es clock)::L) w:=by
 let⟨g,a,d,h1,h2,c1,c2,c3,⟨es,clock,hb,hg⟩,c5⟩:=s.own;exact⟨es,clock,hg,s.os,s.tape,s.output,s.ro,g,a,d,h1,h2,c1,c2,c3,hb,c5⟩
def Sat.map_back(s:Sat σ R (oN b (.map es clock)::L) w)(h:mapG es clock ik f n):Sat σ R (qN b ik f n::L) w:=
 s.turn λh0 hb=>⟨es,clock,hb,h⟩
def eM{o:Obj}(s:Sat σ R (oN b o::L) w):w.heap[b]?=some o:=ZR s
def Sat.obj_set{o:Obj}(o':Obj)(s:Sat σ R (oN b o::L) w):Sat σ R (oN b o'::L) {w with heap:=w.heap.setIfInBounds b o'}:=by
 let⟨e1,e2⟩:=MapKept.heap_set (o':=o') (eM s);exact Sat.put (o:=o) s rfl rfl rfl (λk hk _=>e2 k hk) e1
section
variable{c:Cx}{ops:Array Oper}{Q:Exit->Act->World->Prop}{E:Env}{R:Hp}{L M:List Qj}{rest:List Oper}{d:Option Tmp}{ty:TypeId}{p:String}{af:Array Edge}{g:Option (Nat×Bool)}
def eG{dd:Nat}{t:TypeId}(hw:Wn c ops E ⟨some dd,.makeMap t none,ty,p,af,g⟩ true)(hn:Nat.blt dd c.n=true)
  (h:∀b,RJ c ops Q rest ((dd,.map (some b))::E) R (qN b ik (λ_=>none) 0::L)):RJ c ops Q (⟨some dd,.makeMap t none,ty,p,af,g⟩::rest) E R L:=by
 refine fX (v:=λb=>.map (some b)) (L':=λb=>qN b ik (λ_=>none) 0::L) hw rfl hn (λa w hf hs=>⟨w.heap.size,w.alloc (.map #[] 0),?_,?_⟩) h;.simp[execOp,Instr.makeMap]
 exact Sat.map_back (es:= #[]) (clock:=0) (hs.alloc _) (uq 0 ik)
def fv{t kt et:TypeId}(hm:P.underlying t=some (.map kt et))(hd:P.underlying kt=some (.int ik))(s:Sat σ R (qN b ik f n::L) w)(a:Int)(v:Value):
  ∃w',(Instr.mapUpdate t (.map (some b)) (.int ik a) v).run P w=.ok () w'/\Sat σ R (qN b ik (yv f a v) (if(f a).isSome then n else n+1)::L) w':=by
 let⟨es,clock,hg,s2⟩:=s.map_cases;have hb:=eM s2;have hk:MapKept.IsKey (.int ik) (.int ik a):=rfl;rcases ME hk es.toList 0 hg.isKey with⟨h1,h2⟩|⟨j,e,h1,h2,h3⟩
 .let⟨hp,hfa⟩:=hg.push (v:=v) h2;refine⟨{w with heap:=w.heap.setIfInBounds b (.map (es.push {key:=.int ik a,val:=v,born:=clock}) (clock+1))},?_,?_⟩;rotate_left;.rw[hfa];exact Sat.map_back (s2.obj_set (.map (es.push {key:=.int ik a,val:=v,born:=clock}) (clock+1))) hp
  simp[Instr.mapUpdate,run_underlying hm,I8 hb,JN hd hk,JS hd h1,Mo _ hb,Result.andThen]
 have hj:es[j]?=some e:=by simpa using h2
 let⟨hp,hfa⟩:=hg.modify (v:=v) hj h3;refine⟨{w with heap:=w.heap.setIfInBounds b (.map (es.modify j λe=>{e with key:=.int ik a,val:=v}) clock)},?_,?_⟩;rotate_left;.rw[hfa];exact Sat.map_back (s2.obj_set (.map (es.modify j λe=>{e with key:=.int ik a,val:=v}) clock)) hp
 simp[Instr.mapUpdate,run_underlying hm,I8 hb,JN hd hk,JS hd h1,hj,h3,MapKept.run_keyThatStays hk,Mo _ hb,Result.andThen]
def jt{t kt et:TypeId}{m x:Operand}{a:Int}(hm:c.P.underlying t=some (.map kt et))(hd:c.P.underlying kt=some (.int ik))
  (hw:Wn c ops E ⟨none,.mapUpdate t m x y,ty,p,af,g⟩ true) (e1:ev E m=some (.map (some b))) (e2:ev E x=some (.int ik a)) (e3:ev E y=some v) (fd:Find (qN b ik f n) L M)
  (h:RJ c ops Q rest E R (qN b ik (yv f a v) (if(f a).isSome then n else n+1)::M)):RJ c ops Q (⟨none,.mapUpdate t m x y,ty,p,af,g⟩::rest) E R L:=by
 refine dM hw rfl (λac w hf hs=>?_) h;let⟨w',h1,h2⟩:=fv hm hd (hs.find fd) a v;exact⟨w',by simp[execOp,hf.ev e1,hf.ev e2,hf.ev e3,h1],h2⟩
def nI{t kt et:TypeId}{m x:Operand}{a:Int}{z:Value}{ok:Bool}(hm:c.P.underlying t=some (.map kt et))(hd:c.P.underlying kt=some (.int ik))(hz:∀w,(zeroValue et).run c.P w=.ok z w)
  (e1:ev E m=some (.map (some b))) (e2:ev E x=some (.int ik a)) (fd:Find (qN b ik f n) L M):
  Yld c E R L ⟨d,.lookup t m x ok,ty,p,af,g⟩ (if ok then .tuple #[(f a).getD z,.bool (f a).isSome]else(f a).getD z):=λac w hf hs=>by
 let⟨es,clock,hg,s2⟩:=(hs.find fd).map_cases;have hb:=eM s2;have hk:MapKept.IsKey (.int ik) (.int ik a):=rfl;have r:(Instr.lookup t (.map (some b)) (.int ik a) ok).run c.P w=.ok (if ok then .tuple #[(f a).getD z,.bool (f a).isSome]else(f a).getD z) w:=by
  rcases ME hk es.toList 0 hg.isKey with⟨h1,h2⟩|⟨j,e,h1,h2,h3⟩;.have hfa:=(hg.push (v:=z) h2).2;rw[hfa];simp[Instr.lookup,run_underlying hm,I8 hb,JN hd hk,JS hd h1,hz,Result.andThen]
  have hj:es[j]?=some e:=by simpa using h2
  have hfa:=(hg.modify (v:=z) hj h3).2;rw[hfa];simp[Instr.lookup,run_underlying hm,I8 hb,JN hd hk,JS hd h1,Result.andThen]
 simp[execOp,hf.ev e1,hf.ev e2,r,Oper.quietUpon]
def uT{x:Operand}{t kt et:TypeId}(hm:c.P.underlying t=some (.map kt et))(e1:ev E x=some (.map (some b)))(fd:Find (qN b ik f n) L M):
  Yld c E R L ⟨d,.call {callee:=.builtin .len,args:= #[x],argTypes:= #[t]},ty,p,af,g⟩ (.int .i64 n):=λac w hf hs=>by
 let⟨es,clock,hg,s2⟩:=(hs.find fd).map_cases;have hb:=eM s2;have r:(Builtin.len_ #[t] ty #[.map (some b)]).run c.P w=.ok (goInt n) w:=by
  rw[<-hg.2.2.2];simp[Builtin.len_,run_underlying hm,I8 hb]
 simp[execOp,resolve,invoke,builtin,hf.ev e1,r,Oper.quietUpon,goInt]
end
structure NB where
 x:Nat
 l:Nat
 d:Nat
structure NV where
 u:Value
 va:Value
 vm:Value
 vp:Value
 vo:Value
 css:List (List Value)
def da(b:NB)(v:NV)(x:ND):List Value:=[.int .i64 (x.id:Int),.int .i64 (x.n:Int),.pointer (some ⟨b.l,0,none⟩),.int .i64 x.role,.int .i64 x.leader,.int .u64 x.commit,.int .i64 x.patience,v.vm,v.vp,v.vo,.bool x.down]
@[reducible] def Xk (b : NB) (v : NV) (x : ND) : Qj := QA b.x (da b v x) 109
def ko(p:Int×Int):List Value:=[.int .u64 p.1,.int .u64 p.2]
def XT(l:List (Int×Int)):List Value:=(l.map ko).flatten
def yV(l:List Int):Int->Option Value:=λk=>if k∈l then some (.bool true)else none
def za(vm:Value)(votes:List Int):Qj:=match vm with
 | .map (some m)=>qN m .i64 (yV votes) votes.length
 |_=>λ_=>True
@[reducible] def Yo (b : NB) (v : NV) (x : ND) : Qj := Xd b.l (some ⟨b.d, 0, none⟩) v.va x.g
@[reducible] def Zy (v : NV) (x : ND) : Qj := QN 161 2 v.vp x.peers.length (XT x.peers)
@[reducible] def Yu (v : NV) (x : ND) : Qj := QN 117 10 v.vo x.out.length v.css.flatten
@[reducible] def Yw (b : NB) (v : NV) (x : ND) (D : DK) : List Qj := [Xk b v x, Yo b v x, Xg b.d v.u D, Xf v.u D, Zy v x, za v.vm x.votes]
@[reducible] def XA (b : NB) (v : NV) (x : ND) (D : DK) : List Qj := [Xk b v x, Yo b v x, Xg b.d v.u D, Xf v.u D, Zy v x, za v.vm x.votes, Yu v x]
structure NOk (R:Hp) (v:NV) (x:ND):Prop where
 va:FrX entE R x.g.all v.va
 out:Els msgE R x.out v.css
 vm:v.vm.oneCell'=true
 vp:v.vp.oneCell'=true
 vo:v.vo.oneCell'=true
 map:x.role=1->∃m,v.vm=.map (some m)
def NOk.mono{R R':Hp}(hR:R.le R'){v:NV}{x:ND}(h:NOk R v x):NOk R' v x:=⟨h.va.mono hR,h.out.mono hR,h.vm,h.vp,h.vo,h.map⟩
structure NIn (k:Nat) (x:ND):Prop where
 idn:x.id<x.n/\x.n<=9
 term:0<=x.g.term/\x.g.term<=2305843009213693952+k
 vote: -1<=x.g.vote/\x.g.vote<9
 base:0<=x.g.base/\x.g.base<=100000000000000
 baseT:0<=x.g.baseT/\x.g.baseT<=2305843009213693952+k
 state:x.g.state.length<=1000000
 alln:x.g.all.length<=80000+20*k
 all:∀e∈x.g.all,(0<=e.1/\e.1<=2305843009213693952+k)/\e.2.length<=100
 commit:0<=x.commit/\x.commit<=150000000000000
 patience:0<=x.patience/\x.patience<=1000000000000+k
 peers:x.role=2->x.peers.length=x.n
 peer:∀p∈x.peers,(1<=p.1/\p.1<=200000000000000)/\(0<=p.2/\p.2<=150000000000000)
 votes:x.votes.Nodup/\∀i∈x.votes,0<=i/\i<(x.n:Int)
 out:x.out.length<=20*k
def NIn.le(h:NIn k x)(hk:k<=j):NIn j x:=
 ⟨h.idn,⟨h.term.1,by have:=h.term.2;omega⟩,h.vote,h.base,⟨h.baseT.1,by have:=h.baseT.2;omega⟩,h.state,by have:=h.alln;omega,λe he=>⟨⟨(h.all e he).1.1,by have:=(h.all e he).1.2;omega⟩,(h.all e he).2⟩,h.commit,⟨h.patience.1,by have:=h.patience.2;omega⟩,h.peers,h.peer,h.votes,by have:=h.out;omega⟩
def NIn.g(h:NIn k x)(hk:k<=100):x.g.ok:=by
 have h1:=h.term;have h2:=h.vote;have h3:=h.base;have h4:=h.baseT;have h5:=h.alln;exact⟨by unfold QQ;omega,Om,Om,by unfold QQ;omega,h.state,Om,λe he=>by have:=h.all e he;unfold QQ;omega⟩
def iN(b:NB)(v:NV)(x:ND):QTri prog 38 [.pointer (some ⟨b.x,0,none⟩)] R [Xk b v x] (.int .i64 x.role):=by
 refine Tri.q ?_;unfold Xk da;refine To func38 ntmps38 λ_ F _ r_ _ _=>?_;try simp[cB]
 refine cS λ_ k1=>Qc (Ps (Qd (k1 (cS λ_ k2=>cS λ_ k3=>Qc (Pm (Pa (Yv JV) (Qd (k3 (Qt rfl (Qh (k2 (cS λ_ k4=>Qc (Pm (Pa Qe (Pa (Ga Gp GQ) ?_)))))))))))))));exact Pa (La o3) (Ps (Qd (k4 (Qg (r_ (Es results38 [Xk b v x] ⟨rfl,rfl,rfl⟩))))))
def um(b:NB)(v:NV)(x:ND):QTri prog 58 [.pointer (some ⟨b.x,0,none⟩)] R [Xk b v x] (.int .i64 x.leader):=by
 refine Tri.q ?_;unfold Xk da;refine To func58 ntmps58 λ_ F _ r_ _ _=>?_;try simp[cB]
 refine cS λ_ k1=>Qc (Ps (Qd (k1 (cS λ_ k2=>cS λ_ k3=>Qc (Pm (Pa (Yv JV) (Qd (k3 (Qt rfl (Qh (k2 (cS λ_ k4=>Qc (Pm (Pa Qe (Pa (Ga Gp GQ) ?_)))))))))))))));exact Pa (La o3) (Ps (Qd (k4 (Qg (r_ (Es results58 [Xk b v x] ⟨rfl,rfl,rfl⟩))))))
def kr(b:NB)(v:NV)(x:ND):QTri prog 39 [.pointer (some ⟨b.x,0,none⟩)] R [Xk b v x] (.int .u64 x.commit):=by
 refine Tri.q ?_;unfold Xk da;refine To func39 ntmps39 λ_ F _ r_ _ _=>?_;try simp[cB]
 refine cS λ_ k1=>Qc (Ps (Qd (k1 (cS λ_ k2=>cS λ_ k3=>Qc (Pm (Pa (Yv JV) (Qd (k3 (Qt rfl (Qh (k2 (cS λ_ k4=>Qc (Pm (Pa Qe (Pa (Ga Gp Gw) ?_)))))))))))))));exact Pa (La QO) (Ps (Qd (k4 (Qg (r_ (Es results39 [Xk b v x] ⟨rfl,rfl,rfl⟩))))))
def lG(b:NB)(v:NV)(x:ND):QTri prog 23 [.pointer (some ⟨b.x,0,none⟩)] R [Xk b v x] (.pointer (some ⟨b.l,0,none⟩)):=by
 refine Tri.q ?_;unfold Xk da;refine To func23 ntmps23 λ_ F _ r_ _ _=>?_;try simp[cB]
 refine cS λ_ k1=>Qc (Ps (Qd (k1 (cS λ_ k2=>cS λ_ k3=>Qc (Pm (Pa (Yv JV) (Qd (k3 (Qt rfl (Qh (k2 (cS λ_ k4=>Qc (Pm (Pa Qe (Pa (Ga Gp HO) ?_)))))))))))))));exact Pa (La Zz) (Ps (Qd (k4 (Qg (r_ (Es results23 [Xk b v x] ⟨rfl,rfl,rfl⟩))))))
def yZ(b:NB)(v:NV)(x:ND)(D:DK):QTri prog 37 [.pointer (some ⟨b.x,0,none⟩)] R [Xk b v x,Yo b v x,Xg b.d v.u D] (.bool (Xy (x,D))):=by
 have hd:=jS (R:=R) b.l b.d v.va v.u x.g D;refine Tri.q ?_;unfold Xk da;refine To func37 ntmps37 λ_ F _ r_ _ _=>?_;try simp[cB]
 refine cS λ_ k1=>Qc (Ps (Qd (k1 (cS λ_ k2=>Qc (Pm ?_)))));refine Pa (Yv JV) (Pm (Pb Qf (Pb Qe (Pb (Ga Gp Il) (Pb (La o4) (Pa Qn (Pm (QM 11 rfl (λhg11=>?_) (λhg11=>?_)))))))));try simp[dx]at hg11
 refine Pk (Pk (Pk (Pk (Pk (Pa Qq (Ps (Qd (k2 (Qg (r_ (Es results37 [Xk b v x,Yo b v x,Xg b.d v.u D] ?_)))))))))));refine⟨?_,rfl,rfl⟩;unfold Xy;simp_all[QI];try simp[dx]at hg11
 refine Pb Qf (Pb Qe (Pb (Ga Gp HO) (Pb (La Zz) (Pb (Ca Me (hd)) (Pa Qn (Ps (Qd (k2 (cE [2] (Qg (r_ ?_)))))))))));refine Es results37 [Xk b v x,Yo b v x,Xg b.d v.u D] ?_;refine⟨?_,rfl,rfl⟩;unfold Xy;simp_all[QI]
def aP(b:NB)(v:NV)(x:ND)(hg:x.g.ok)(hv:FrX entE R x.g.all v.va)(i:Int)(hi:QQ i):QTri prog 91 [.pointer (some ⟨b.x,0,none⟩),.int .u64 i] R [Xk b v x,Yo b v x] (.int .u64 (x.tAt i)):=by
 have ht:=aR (R:=R) b.l (some ⟨b.d,0,none⟩) v.va x.g hg hv i hi;refine Tri.q ?_;unfold Xk da;refine To func91 ntmps91 λ_ F _ r_ _ _=>?_;try simp[cB]
 refine cS λ_ k1=>Qc (Ps (Qd (k1 (cS λ_ k2=>Qc (Pm (Pa Qe (Pa (Ga Gp HO) ?_)))))));refine Pa (La Zz) (Pm (Pa (Ca call100 (ht)) (Xx 13 rfl (v':=QI [.int .u64 ((x.g.termAt i).getD 0),.bool (x.g.termAt i).isSome]) (gR _) (Pm (Pa (Ql rfl rfl) ?_)))));refine Pa Ql (Ps (Ps (Qd (k2 (cS λ_ k3=>Qc ?_)))));exact Pm (Ps (Qd (k3 (Qg (r_ (Es results91 [Xk b v x,Yo b v x] ⟨rfl,rfl,rfl⟩))))))
def sB(b:NB)(v:NV)(x:ND)(k:Nat)(hk:k<=100)(hx:NIn k x):QTri prog 71 [.pointer (some ⟨b.x,0,none⟩)] R [Xk b v x,Yo b v x] (.int .i64 (YA x.id x.g.term)):=by
 have h1:=hx.term;have h2:=hx.idn;have hm:0<=(7*(x.id:Int)+3*x.g.term)%11/\(7*(x.id:Int)+3*x.g.term)%11<11:=⟨Kw _ Dc,J5 _ Dc⟩;have ht:=ZN (R:=R) b.l (some ⟨b.d,0,none⟩) v.va x.g;refine Tri.q ?_;unfold Xk da;refine To func71 ntmps71 λ_ F _ r_ _ _=>?_;try simp[cB]
 refine cS λ_ k1=>Qc (Ps (Qd (k1 (cS λ_ k2=>dW (Qa Qf (Qa (Qe rfl) ?_))))));refine Qa (Ga Gp GQ) ?_;refine Qa (La o3) ?_;refine Qa ((XE HA Ib rfl (by(simp[IntKind.min,IntKind.max,IntKind.signed,IntKind.bits,GP,H3,H7];omega)))) ?_;refine Qa ((Yld.to (u:=.int .u64 (7*(x.id:Int))) (nq rfl rfl) (by rw[aZ (by(simp[IntKind.min,IntKind.max,IntKind.signed,IntKind.bits,GP,H3,H7];omega))]))) (Qa (Qf rfl) (Qa (Qe rfl) ?_));refine Qa (Ga Gp HO) ?_;refine Qa (La Zz) ?_;refine Qa (Ca Jz (ht)) ?_;refine Qa ((Yld.to (u:=.int .u64 (3*x.g.term)) (nq rfl rfl) (by rw[aZ (by(simp[IntKind.min,IntKind.max,IntKind.signed,IntKind.bits,GP,H3,H7];omega))]))) ?_;refine Qa (Yg) ?_;refine Qa ((Yld.to (u:=.int .u64 ((7*(x.id:Int)+3*x.g.term)%11)) (cJ rfl rfl Dc) (by rw[IV Om]))) ?_;refine Qa ((XE Ib HA rfl (by(simp[IntKind.min,IntKind.max,IntKind.signed,IntKind.bits,GP,H3,H7];omega)))) ?_;refine Qa (Qz) (Qa (Xs rfl) (Xj (k2 ?_)));refine cE [2] (Qg (r_ ?_));refine Es results71 [Xk b v x,Yo b v x] ?_;exact⟨rfl,rfl,rfl⟩
def NV.sent(v:NV)(vo:Value)(css:List (List Value)):NV:={v with vo:=vo,css:=css}
def iQ{ve:Value}(h:ve.oneCell'=true):∀u∈Xl m ve,u.oneCell'=true:=λu hu=>by
 simp[Xl,Gn,Gs,G7]at hu;rcases hu with rfl|rfl|rfl|rfl|rfl|rfl|rfl|rfl|rfl|rfl<;>first|rfl|assumption
def An{l:List Msg}{css:List (List Value)}(h:Els msgE R l css):css.flatten.length=l.length*10:=h.flat
def FE(css:List (List Value))(c:List Value):css.flatten++c=(css++[c]).flatten:=Si
def fQ(b:NB)(v:NV)(x:ND)(m:Msg)(ve:Value)(ho:Els msgE R x.out v.css)(hvo:v.vo.oneCell'=true)(hl:x.out.length<=100000)(hve:FrX entE R m.es ve):
  Tri prog 90 [.pointer (some ⟨b.x,0,none⟩),.agg ⟨Xl m ve⟩] R [Xk b v x,Yo b v x,Yu v x]
   (λr R' L'=>∃vo css,Els msgE R' (x.send m).out css/\vo.oneCell'=true/\L'=[Xk b (v.sent vo css) (x.send m),Yo b (v.sent vo css) (x.send m),Yu (v.sent vo css) (x.send m)]):=by
 have hveo:=hve.one;have hfl:=An ho;refine To func90 ntmps90 λ_ F _ _ n_ _=>?_;try simp only[cB]
 unfold Xk da Yo Xd qd at*;unfold Yu;refine cS λ_ k1=>Qc (Xc Qo rfl rfl rfl (λb3=>Qd (k1 (cS λ_ k2=>mG (L:=[QA b.x (da b v x) 109,Yo b v x]) [0,1,2,3,4,5,6,7,8,9] [] [10,11,12] (Wc rfl Qf (Wc rfl (Qe rfl) ?_))))));refine Wc rfl (Ga Gp GQ) ?_;refine Wc rfl (La o3) (Wc rfl (Qf rfl) (Wc rfl (Qe rfl) ?_));refine Wc rfl (Ga Gp HO) ?_;refine Wc rfl (La Zz) ?_;refine Wc rfl (Ca Jz (ZN b.l (some ⟨b.d,0,none⟩) v.va x.g)) ?_;refine Wc rfl (Ga GF GQ) (Xq (Xt ?_));try simp only[cC]
 refine Sa o3 (Pa (Ga GF Gw) ?_);refine Sa QO (Qd (k2 (mG (L:=[QA b3 (Xl {m with frm:=x.id,term:=x.g.term} ve) 117,QA b.x (da b v x) 109]) [0,1,2,3,4,5] [6,7] [8,9,10] (Wc rfl Qf (Wc rfl (Qf rfl) (Wc rfl (Qe rfl) ?_))))));refine Wc rfl (Ga Gp Mw) ?_;refine Wc rfl (La fw) ?_;refine Wc rfl (Lm (vs:=Xl {m with frm:=x.id,term:=x.g.term} ve) Yl) (Xq (QT rfl ?_));try simp only[cC]
 refine Qv (sz:=10) Qo rfl JU LS Ia rfl rfl rfl Dc Dc (λb21=>QU QB Qw (QT rfl ?_));try simp only[cC]
 refine QZ (sz:=10) (by_:=104) ⟨JU,_,_,rfl,rfl,rfl,rfl,rfl⟩ Qo rfl rfl rfl Qm (XL (xs:=Xl {m with frm:=x.id,term:=x.g.term} ve) JU Qm (iQ hveo)) rfl Qu (by simp only[maxLen];omega) (λv22 ho22 hh22=>?_);rw[FE];refine QU QB Qw (Xt ?_);try simp only[cC]
 refine Pa Qe (Pa (Ga Gp Mw) (Sa fw (Qd (n_ ?_))));have hok:Els msgE R (x.send m).out (v.css++[Xl {m with frm:=x.id,term:=x.g.term} ve]):=ho.snoc (y:={m with frm:=x.id,term:=x.g.term}) ⟨ve,rfl,hve⟩;have hlen:(x.send m).out.length=x.out.length+1:=by simp[ND.send]
 exact Et results90 [Xk b (v.sent v22 (v.css++[Xl {m with frm:=x.id,term:=x.g.term} ve])) (x.send m),Yo b (v.sent v22 (v.css++[Xl {m with frm:=x.id,term:=x.g.term} ve])) (x.send m),QN 117 10 v22 (x.out.length+1) (v.css++[Xl {m with frm:=x.id,term:=x.g.term} ve]).flatten] (by first|exact Hp.le_refl _|assumption) ⟨v22,_,hok,by assumption,by rw[<-hlen];rfl⟩
def jY(b:NB)(v:NV)(x:ND)(m:Msg)(ve:Value)(ok:Bool)(i:Int)(ho:Els msgE R x.out v.css)(hvo:v.vo.oneCell'=true)(hl:x.out.length<=100000)(hve:ve.oneCell'=true):
  Tri prog 97 [.pointer (some ⟨b.x,0,none⟩),.agg ⟨Xl m ve⟩,.bool ok,.int .u64 i] R [Xk b v x,Yo b v x,Yu v x]
   (λr R' L'=>∃vo css,Els msgE R' (x.answer m ok i).out css/\vo.oneCell'=true/\L'=[Xk b (v.sent vo css) (x.answer m ok i),Yo b (v.sent vo css) (x.answer m ok i),Yu (v.sent vo css) (x.answer m ok i)]):=by
 refine To func97 ntmps97 λ_ F _ _ n_ _=>?_;try simp[cB]
 refine cS λ_ k1=>Qc (Xc Qo rfl rfl rfl (λb5=>Qd (k1 (Qc (Pm (Pa (Ga GF GQ) (Pa (La o3) (Pm (Pm (Pa (Xh (cells:=[_,_,_,_,_,_,_,_,_,_]) [(0,1),(1,1),(2,1),(3,1),(4,1),(5,1),(6,1),(7,1),(8,1),(9,1)] GF Ia (λ_=>rfl) rfl rfl) (Ra MR (fQ b v x {Msg.zero with kind:=3,to:=m.frm,ok:=ok,index:=i} (.slice none 0 0) ho hvo hl FrX.nil) ?_)))))))))));rintro r R2 L' hR2 ⟨vo,css,hels,hvo2,rfl⟩;try simp[cB]
 exact Qd (n_ (Et results97 [Xk b (v.sent vo css) (x.answer m ok i),Yo b (v.sent vo css) (x.answer m ok i),Yu (v.sent vo css) (x.answer m ok i)] hR2 ⟨vo,css,hels,hvo2,rfl⟩))
def jP(l:List (Int×Int))(k:Nat)(z:Int)(hz:z=k)(hk:k<l.length):ZO (XT l) (z.toNat*2+0)=some (.int .u64 (l.getD k (0,0)).1)/\ZO (XT l) (z.toNat*2+1)=some (.int .u64 (l.getD k (0,0)).2):=by
 subst hz;have hc:(l.map ko)[k]?=some (ko (l.getD k (0,0))):=by rw[HD,b7 hk];simp[Gt,b7 hk]
 have h4:∀c∈l.map ko,c.length=2:=λc hc=>by obtain⟨p,_,rfl⟩:=Gu.1 hc;rfl
 rw[show((k:Nat):Int).toNat=k by simp];exact⟨by rw[dP];exact i4 h4 hc rfl,by rw[dP];exact i4 h4 hc rfl⟩
def cY(l:List (Int×Int)):(XT l).length=l.length*2:=by
 unfold XT;rw[iZ (n:=2) (λc hc=>by obtain⟨p,_,rfl⟩:=Gu.1 hc;rfl),H8]
def LG.at_k(g:LG)(k:Nat):g.at (g.base+1+k)=g.all[k]?:=by
 by_cases hk:k<g.all.length;.rw[b7 hk];exact g.at_i (b7 hk)
 rw[Ho Om];unfold LG.at LG.last;rw[ac Om]
def fc(o:Option Qy):∃(e:Qy) (ok:Bool),uJ o=QI [.agg ⟨XB e⟩,.bool ok]/\(ok=true->o=some e)/\(ok=false->o=none):=by
 cases o with
 |none=>exact⟨(0,[]),false,rfl,Si,Si⟩
 |some e=>exact⟨e,true,rfl,Si,Si⟩
def yl{to:Nat}(h:x.nxt to<=x.g.base):x.feedMsg to={Msg.zero with kind:=4,to:=to,index:=x.g.base,logTerm:=x.g.baseT,state:=x.g.state}:=by unfold ND.feedMsg;rw[an h]
def qE{to:Nat}(h:¬x.nxt to<=x.g.base):x.feedMsg to={Msg.zero with kind:=2,to:=to,index:=x.nxt to-1,logTerm:=x.tAt (x.nxt to-1),commit:=x.commit,es:=(x.g.all.drop (x.nxt to-x.g.base-1).toNat).take 8}:=by unfold ND.feedMsg;rw[ac h]
def pI(b:NB)(v:NV)(x:ND)(k:Nat)(hk:k<=90)(hx:NIn k x)(hv:NOk R v x)(to:Nat)(hto:to<x.peers.length):
  Tri prog 70 [.pointer (some ⟨b.x,0,none⟩),.int .i64 (to:Int)] R [Xk b v x,Yo b v x,Zy v x,Yu v x]
   (λr R' L'=>∃vo css,Els msgE R' (x.feed to).out css/\vo.oneCell'=true/\L'=[Xk b (v.sent vo css) (x.feed to),Yo b (v.sent vo css) (x.feed to),Zy (v.sent vo css) (x.feed to),Yu (v.sent vo css) (x.feed to)]):=by
 have hg:=hx.g Om;have hva:=hv.va;have ho:=hx.out;have hpm:x.peers.getD to (0,0)∈x.peers:=by rw[Gt,b7 hto];simp
 let⟨hp1,hp2⟩:=hx.peer _ hpm;replace hp1:1<=x.nxt to/\x.nxt to<=200000000000000:=hp1;have hnx:ZO (XT x.peers) (((to:Nat):Int).toNat*2+0)=some (.int .u64 (x.nxt to)):=(jP x.peers to _ rfl hto).1;have hb:=hx.base;refine To func70 ntmps70 λσ F _ r_ n_ _=>?_;try simp only[cB]
 unfold Xk da;refine cS λ_ k1=>Qc (Pm (Pa Qe (Pa (Ga Gp KH) ?_)));refine Pa (La lF) (Pm (Pa (Xn JI LR) (Pa ((qR (k:=0) IC rfl (m:=1) Dc Gw rfl Qm Om)) (Pa ((XC QO rfl Qm hnx)) (Ps (Qd (k1 (cS λ_ k2=>Qc (Pm (Pa Qe (Pa (Ga Gp HO) ?_)))))))))));refine Pa (La Zz) (Pa (Ca LF (jT b.l (some ⟨b.d,0,none⟩) v.va x.g)) (Pm (Pa (Ql rfl rfl) (Pa (Ql rfl rfl) (Pa (Ql rfl rfl) (Ps (Ps (Ps (Qd (k2 (cE [0,1,4,5,6,7] ?_)))))))))));refine cS λ_ k3=>cS λ_ k4=>Qc (Pm (Pm (Pa aL (Qd (k4 (Qi rfl (λhc31=>?_) (λhc31=>?_)))))));have f1:x.nxt to<=x.g.base:=by simpa using hc31
 have e1:=yl f1;refine cS λ_ k6=>Qc (Pm (Pm (Pm (Pm (Pm (Pa (Xh (cells:=[_,_,_,_,_,_,_,_,_,_]) [(0,1),(1,1),(2,1),(3,1),(4,1),(5,1),(6,1),(7,1),(8,1),(9,1)] GF Ia (λ_=>rfl) rfl rfl) (Ra MR (fQ b v x {Msg.zero with kind:=4,to:=to,index:=x.g.base,logTerm:=x.g.baseT,state:=x.g.state} (.slice none 0 0) hv.out hv.vo Om FrX.nil) ?_)))))));rintro r R2 L' hR2 ⟨vo,css,hels,hvo2,rfl⟩;rw[<-e1]at hels|-;try simp only[cB]
 refine Qd (k6 (cE [] ?_));exact Qg (r_ (Er results70 [Xk b (v.sent vo css) (x.feed to),Yo b (v.sent vo css) (x.feed to),Zy (v.sent vo css) (x.feed to),Yu (v.sent vo css) (x.feed to)] hR2 ⟨vo,css,hels,hvo2,rfl⟩));have f1:¬x.nxt to<=x.g.base:=by simpa using hc31
 have e1:=qE f1;obtain⟨s,hs⟩:∃s:Nat,x.nxt to=x.g.base+1+s:=⟨(x.nxt to-x.g.base-1).toNat,by omega⟩;have hs2:(x.nxt to-x.g.base-1).toNat=s:=by omega
 rw[hs2]at e1;refine Qh (k3 (cS λ_ k7=>mG (L:=[QA b.x (da b v x) 109,Yo b v x]) [0,1,2,3,4,5,6,7,8,9,10,11] [12] [13] (Wc rfl Qf (Wc rfl (Qf rfl) ?_))));refine Wc rfl yg (Wc rfl (Qf rfl) (Wc rfl (Qf rfl) ?_));refine Wc rfl yg ?_;refine Wa rfl (λR1 hR1 G=>(Ca call91 (aP b v x hg (hva.mono hR1) (x.nxt to-1) (by unfold QQ;omega)))) (Wc rfl (Qf rfl) (Wc rfl (Qe rfl) ?_));refine Wc rfl (Ga Gp Gw) ?_;refine Wc rfl (La QO) (Wc rfl (Xh (cells:=[_,_,_,_,_,_,_,_,_,_]) [(0,1),(1,1),(2,1),(3,1),(4,1),(5,1),(6,1),(7,1),(8,1),(9,1)] GF Ia (λ_=>rfl) rfl rfl) (Xq (QT rfl ?_)));try simp only[cC]
 refine QC Qo rfl Ia rfl (λb8=>QU QB Qw (Xt ?_));try simp only[cC]
 refine Qr Yl rfl Qo rfl rfl (by(first|(simp[Value.oneCell'];done)|(intro u hu;simp only[Gn,Gs,G7]at hu;rcases hu with rfl|rfl|rfl|rfl<;>first|rfl|assumption))) Qm (by(simp)) rfl ?_;refine Qd (k7 (cE [0,4,8] (XN λK8 hK8=>?_)));have hJ11:∀(x2:Nat×Value),x2.2.oneCell'=true/\(x.g.all.drop s).take x2.1=(x.g.all.drop s).take 8->EJ ⟨prog,78,σ⟩ K8 [(0,.pointer (some ⟨b.x,0,none⟩)),(8,.pointer (some ⟨b8,0,none⟩))] R (QN 93 2 x2.2 ((x.g.all.drop s).take x2.1).length (Zp ((x.g.all.drop s).take x2.1))::QA b8 (Xl {Msg.zero with kind:=2,to:=to,index:=x.nxt to-1,logTerm:=x.tAt (x.nxt to-1),commit:=x.commit,es:=[]} x2.2) 117::Xk b v x::Yo b v x::Zy v x::Yu v x::F):=by
  rintro⟨j,vl⟩ ⟨hvl,hfin⟩;try dsimp only
  dsimp only at hvl hfin;refine wT (e:=93) (sz:=2) (n:=((x.g.all.drop s).take j).length) (v:=vl) (xs:=Zp ((x.g.all.drop s).take j)) Qm (λR3 hR3 hfr hxl=>?_);have hfx:=gz hfr;rw[hfin]at hfx;refine hK8 _ _ _ (Qc (Pm (Pa ((Lm (vs:=Xl {Msg.zero with kind:=2,to:=to,index:=x.nxt to-1,logTerm:=x.tAt (x.nxt to-1),commit:=x.commit,es:=(x.g.all.drop s).take 8} vl) Yl)) (Ra MR (fQ b v x {Msg.zero with kind:=2,to:=to,index:=x.nxt to-1,logTerm:=x.tAt (x.nxt to-1),commit:=x.commit,es:=(x.g.all.drop s).take 8} vl (hv.mono hR3).out hv.vo Om hfx) ?_))));rintro r R4 L' hR4 ⟨vo,css,hels,hvo2,rfl⟩;rw[<-e1]at hels|-;try simp only[cB]
  exact Qd (n_ (Et results70 [Xk b (v.sent vo css) (x.feed to),Yo b (v.sent vo css) (x.feed to),Zy (v.sent vo css) (x.feed to),Yu (v.sent vo css) (x.feed to)] (by exact Hp.le_trans hR3 hR4) ⟨vo,css,hels,hvo2,rfl⟩))
 refine cS λ_ k9=>Qc (Zb (A:=QN 93 2 (.slice none 0 0) 0 (Zp ([]:List Qy))) (Yr _ _) (Pa ((Yld.to (u:=.int .u64 (x.nxt to+((0:Nat):Int))) Qf Si)) (Ps (Qd (k9 (Qp (Lp (λ(x1:Nat×Value)=>[(0,.pointer (some ⟨b.x,0,none⟩)),(8,.pointer (some ⟨b8,0,none⟩)),(9,.int .u64 (x.nxt to+x1.1))]) (λx1=>R) (λx1=>QN 93 2 x1.2 ((x.g.all.drop s).take x1.1).length (Zp ((x.g.all.drop s).take x1.1))::QA b8 (Xl {Msg.zero with kind:=2,to:=to,index:=x.nxt to-1,logTerm:=x.tAt (x.nxt to-1),commit:=x.commit,es:=[]} x1.2) 117::Xk b v x::Yo b v x::Zy v x::Yu v x::F) (λx1=>x1.1<=8/\((x.g.all.drop s).take x1.1).length=x1.1/\x1.2.oneCell'=true) (λx1=>8-x1.1) (0,.slice none 0 0) (⟨by simp,by simp,rfl⟩) ?_)))))));rintro⟨j,vl⟩ ⟨hj,hjl,hvl⟩;try dsimp only
 dsimp only at hj hjl hvl;refine cS λ_ k10=>cS λ_ k11=>Qc (Pa (Ga GF Iu) (Pa (La zG) (Pa (Zf GN) (Pa QR (Qd (k11 (Qi rfl (λhc55=>?_) (λhc55=>?_))))))));try simp only[dx]at hc55
 refine Qh (k10 (cS λ_ k13=>Qp (cS λ_ k14=>Qc ?_)));have hj8:j<8:=by rw[hjl]at hc55;(try simp at hc55);omega
 have hal:=hx.alln;have hat:=gq (R:=R) b.l (some ⟨b.d,0,none⟩) v.va x.g hg hva (x.nxt to+j) (by unfold QQ;omega);rw[show x.g.at (x.nxt to+(j:Int))=x.g.all[s+j]? by rw[show x.nxt to+(j:Int)=x.g.base+1+((s+j:Nat):Int)by omega,LG.at_k]]at hat;let⟨e,ok,hev,hok1,hok2⟩:=fc (x.g.all[s+j]?);refine Pm (Pa Qe (Pa (Ga Gp HO) ?_));refine Pa (La Zz) (Pm (Pa (Ca Mf (hat)) (Xx 64 rfl (v':=QI [.agg ⟨XB e⟩,.bool ok]) hev (Pm (Pa (Ql rfl rfl) (Pa (Ql rfl rfl) (QC Qo rfl H2 rfl (λb10=>Sm (vs:=XB e) yQ (entE.one (R:=R) (x:=e) rfl) ?_))))))));refine Ps (Qd (k14 (cE [0,8,9,10,11] ?_)));refine cS λ_ k15=>cS λ_ k16=>Qc (Pm (Pa Xa (Qd (k16 (Qi rfl (λhc68=>?_) (λhc68=>?_))))));have hnone:x.g.all[s+j]?=none:=hok2 (by simpa using hc68);have hlen:x.g.all.length<=s+j:=by rw[J7]at hnone;exact hnone
 have hfin:(x.g.all.drop s).take j=(x.g.all.drop s).take 8:=by rw[Gx (by simp;omega),Gx (by simp;omega)]
 refine QG (Jn hJ11 ((j,vl)) (⟨hvl,hfin⟩));have hsome:x.g.all[s+j]?=some e:=hok1 (by simpa using hc68);have hlen:s+j<x.g.all.length:=(Gj.1 hsome).1;have htk:((x.g.all.drop s).take (j+1)).length=j+1:=by simp;omega
 have hdr:(x.g.all.drop s)[j]?=some e:=by rw[HF];exact hsome
 refine Qh (k15 (Qc (Pa (Ga GF Iu) (Pa (La zG) (Pa ((Lm (vs:=XB e) yQ)) (Qv (sz:=2) Qo rfl GN Iy H2 rfl rfl rfl Dc Dc (λb72=>QZ (sz:=2) (by_:=24) ⟨GN,_,_,rfl,rfl,rfl,rfl,rfl⟩ Qo rfl rfl rfl Qm (XL (xs:=XB e) GN Qm (entE.one (R:=R) (x:=e) rfl)) rfl Qu (by simp only[maxLen];omega) (λv73 ho73 hh73=>?_))))))));rw[show Zp ((x.g.all.drop s).take j)++XB e=Zp ((x.g.all.drop s).take (j+1))by unfold Zp;rw[iR hdr];simp,show((x.g.all.drop s).take j).length+1=((x.g.all.drop s).take (j+1)).length by rw[htk,hjl]];refine Pa (Ga GF Iu) (Sa zG (Qd (k13 (Qc (Pm ?_)))));refine Pa ((Yld.to (u:=.int .u64 (x.nxt to+((j+1:Nat):Int))) Yg (by congr 1;omega))) (Ps (Qd (ro rfl (rd ((j+1,v73)) (⟨by dsimp only;omega,htk,by assumption⟩) Do))));have hfin:(x.g.all.drop s).take j=(x.g.all.drop s).take 8:=by rw[hjl]at hc55;rw[show j=8 by(try simp at hc55);omega]
 refine QG (Jn hJ11 ((j,vl)) (⟨hvl,hfin⟩))
def vC(L F:List Qj):Split (L++F) L F:=by
 induction L with
 |nil=>exact .nil _
 |cons A L ih=>exact .cons (.head _) ih
section
variable{c:Cx}{ops:Array Oper}{Q:Exit->Act->World->Prop}{E:Env}{R:Hp}{L:List Qj}{rest:List Oper}{ty:TypeId}{p:String}{af:Array Edge}{g:Option (Nat×Bool)}
def vH{d:Option Tmp}{f:FuncId}{x:Operand}{xs:List Operand}{fs vs:List Value}(hx:a.eval x=.func (.func f) ⟨fs⟩ ⟨cs⟩)(hc:∀args w,(callFunc f args).run c.P w=.ok (.enter f args) w)
  (hv:xs.map a.eval=vs):(execOp a.eval ⟨d,.call {callee:=.value x,args:=⟨xs⟩,argTypes:=ts},ty,p,af,g⟩).run c.P w=.ok (.enter f ⟨fs++vs++cs⟩) w:=by
 have e:(Array.mk xs).map a.eval=⟨vs⟩:=by rw[<-hv];simp
 have e2:(Array.mk fs)++(Array.mk vs)++(Array.mk cs)=⟨fs++vs++cs⟩:=Si;simp[execOp,resolve,hx,Deferred.ofValue,invoke,e,hc]
def oA{f:FuncId}{x:Operand}{xs:List Operand}{fs vs:List Value}{pre:List Qj}
  (hw:Wn c ops E ⟨some d,.call {callee:=.value x,args:=⟨xs⟩,argTypes:=ts},ty,p,af,g⟩ true) (hn:Nat.blt d c.n=true) (hx:ev E x=some (.func (.func f) ⟨fs⟩ ⟨cs⟩)) (hc:∀args w,(callFunc f args).run c.P w=.ok (.enter f args) w)
  (hv:evs E xs=some vs) (ht:Tri c.P f (fs++vs++cs) R pre post pan) (hs:Split L pre F)
  (hp:∀ch R' L',R.le R'->pan ch R' L'->EJ c (Q (.panic ch)) E R' (L'++F))
  (h:∀v R' L',R.le R'->post v R' L'->RJ c ops Q rest ((d,v)::E) R' (L'++F)):
  RJ c ops Q (⟨some d,.call {callee:=.value x,args:=⟨xs⟩,argTypes:=ts},ty,p,af,g⟩::rest) E R L:=by
 intro a w hf hsat;unfold wpList;rw[an (hw a hf)];refine .inl ?_;unfold Oper.wp;rw[vH (hf.ev hx) hc (hf.evs hv)];simp only[Oper.upon];refine(ht _ _ _ (hs.sat hsat)).mono λe w' ⟨R',L',hR,hw',hpost⟩=>?_;cases e with
 |returned v=>exact h v R' L' hR hpost _ _ (hf.put hn v) hw'
 |panicked ch=>exact hp ch R' L' hR hpost _ _ hf hw'
 |outgrown=>exact hpost.elim
end
def wW
  {l1 l2:List Oper} {g:FuncId} {cap:List Operand} {ty ty1:TypeId} {p p1:String} {af af1:Array Edge}
  (hQ:∀e a w,uS c.P fn σ R0 F post pan e a w->Q e a w) (hn:Nat.blt d c.n=true) (hv:evs E cap=some cs)
  (h:RJ c l1.toArray (Exit.then (λa w=>wpList c.P l2.toArray (kg c.P fn (j7 σ R0 F post pan) {target:=.fn (.func g) ⟨cs⟩,args:= #[]}) l2 a w) (kg c.P fn (j7 σ R0 F post pan) {target:=.fn (.func g) ⟨cs⟩,args:= #[]})) l1 ((d,.func (.func g) ⟨[]⟩ ⟨cs⟩)::E) R L):
  CJ c (.seq (.region i #[⟨some d,.makeFunc (.func g) #[] ⟨cap⟩,ty1,p1,af1,none⟩,⟨none,.defer {callee:=.value (.tmp d),args:= #[],argTypes:=ts},ty,p,af,none⟩] false) (.seq (.region j l1.toArray false) (.seq (.region k l2.toArray false) .ret))) Q E R L:=by
 intro a w hf hs;refine wp_seq (wp_region_lit (l:=[_,_]) ?_);unfold wpList;rw[an (Qo rfl a hf)];refine .inl ?_;have hm:=Zo (c:=c) (E:=E) (R:=R) (L:=L) (ty:=ty1) (p:=p1) (af:=af1) (g:=none) (d:=some d) (fn:=.func g) (first:=[]) (cap:=cap) (fs:=[]) (cs:=cs) rfl hv a w hf hs;have r0:(execOp a.eval ⟨some d,.makeFunc (.func g) #[] ⟨cap⟩,ty1,p1,af1,none⟩).run c.P w=.ok (.value (.func (.func g) ⟨[]⟩ ⟨cs⟩)) w:=by
  have e2:(Array.mk cap).map a.eval=⟨cs⟩:=by rw[<-hf.evs hv];simp
  simp[execOp,Instr.makeFunc,e2]
 unfold Oper.wp;rw[r0];simp[Oper.upon];have hf1:=hf.put hn (.func (.func g) ⟨[]⟩ ⟨cs⟩);unfold wpList;rw[an (Qo rfl _ hf1)];refine .inl ?_;have r:(execOp (a.put (some d) (.func (.func g) ⟨[]⟩ ⟨cs⟩)).eval ⟨none,.defer {callee:=.value (.tmp d),args:= #[],argTypes:=ts},ty,p,af,none⟩).run c.P w=.ok (.defer {target:=.fn (.func g) ⟨cs⟩,args:= #[]}) w:=by
  have:=hf1.ev (x:=.tmp d) (v:=.func (.func g) ⟨[]⟩ ⟨cs⟩) (by simp[ev,lk]);simp[execOp,resolve,this,Deferred.ofValue]
 unfold Oper.wp;rw[r];simp[Oper.upon];show(Code.seq (.region j l1.toArray false) (.seq (.region k l2.toArray false) .ret)).wp c.P Q _ w;refine wp_seq (wp_region_lit ?_);have hd:=hf1.dfs;generalize a.put (some d) (.func (.func g) ⟨[]⟩ ⟨cs⟩)=a1 at hf1 hd|-;have e1:(({a1 with defers:={target:=.fn (.func g) ⟨cs⟩,args:= #[]}::a1.defers}:Act).put none undef)=under [{target:=.fn (.func g) ⟨cs⟩,args:= #[]}] a1:=by
  simp[Act.put,under,hd]
 rw[e1];have key:∀(e:Exit) (a':Act) (w':World),kg c.P fn (j7 σ R0 F post pan) {target:=.fn (.func g) ⟨cs⟩,args:= #[]} e a' w'->e≠ .normal->Q e (under [{target:=.fn (.func g) ⟨cs⟩,args:= #[]}] a') w':=by
  intro e a' w' hq hne;cases e with
  |normal=>exact Gr rfl hne
  |panic ch=>
   let⟨h1,h2⟩:=hq;refine hQ _ _ _ ?_;show Leaves _ _ _ _ (a'.defers++_) _ _;rw[h1];exact h2
  |ret=>exact hq.elim
  |outgrown=>exact hq.elim
  |exit id=>exact hq.elim
  |goto l=>exact hq.elim
 refine jm ?_ l1 a1 w (h a1 w hf1 hs);intro e a' w' hq;cases e with
 |normal=>
  show(Code.seq (.region k l2.toArray false) .ret).wp c.P Q _ w';refine wp_seq (wp_region_lit (jm ?_ l2 a' w' hq));intro e a' w' hq;cases e with
  |normal=>
   let⟨h1,h2⟩:=hq;refine wp_ret (hQ _ _ _ ?_);show Leaves _ _ _ _ (a'.defers++_) _ _;rw[h1];exact h2
  |panic ch=>exact key _ _ _ hq Si
  |ret=>exact hq.elim
  |outgrown=>exact hq.elim
  |exit id=>exact hq.elim
  |goto l=>exact hq.elim
 |panic ch=>exact key _ _ _ hq Si
 |ret=>exact hq.elim
 |outgrown=>exact hq.elim
 |exit id=>exact hq.elim
 |goto l=>exact hq.elim
def ip{tmps:Array Value}{RR:Ending->World->Prop}{g:FuncId}{u u1:FrameMode}{X:World->Prop}
  (hu:u≠ .run) (hc:∀args w,(callFunc g args).run P w=.ok (.enter g args) w) (h:CallsD P g ⟨cs⟩ u w λe u' w'=>(∃v,e=.returned v)/\settle u'=u1/\X w')
  (k:∀w',X w'->Leaves P fn tmps RR [] u1 w'):Leaves P fn tmps RR [{target:=.fn (.func g) ⟨cs⟩,args:= #[]}] u w:=by
 refine leaves_cons hu (f:=g) (args:=⟨cs⟩) (by simp[invoke,hc]) (h.mono λe u' w' ⟨⟨v,he⟩,h1,h2⟩=>?_);subst he;simp only;rw[h1];exact k w' h2
def YM(id n:Nat):List Nat:=(List.range n).filter (λi=>i !=id)
def jy(id i:Nat):YM id (i+1)=if i=id then YM id i else YM id i++[i]:=by
 unfold YM;rw[JQ,List.filter_append];by_cases h:i=id;.subst h;simp
 simp[h]
def iK{α:Type}(b:NB)(id n:Nat)(fk:FuncId)(first caps:List Value)(hc:∀args w,(callFunc fk args).run prog w=.ok (.enter fk args) w)(step:α->Nat->α)(rep:α->Hp->List Qj->Prop)
  (hrep:∀a R L,rep a R L->∃v x rest,L=Xk b v x::rest/\x.id=id/\x.n=n)
  (hn:n<=9) (a:α) (L:List Qj) (hL:rep a R L)
  (hf:∀R L i,rep ((YM id i).foldl step a) R L->i<n->i≠id->Tri prog fk (first++[.int .i64 (i:Int)]++caps) R L (λ_ R' L'=>rep (step ((YM id i).foldl step a) i) R' L')):
  Tri prog 69 [.pointer (some ⟨b.x,0,none⟩),.func (.func fk) ⟨first⟩ ⟨caps⟩] R L (λ_ R' L'=>rep ((YM id n).foldl step a) R' L'):=by
 obtain⟨v,x,rest,rfl,hid,hnn⟩:=hrep a R L hL
 subst hid hnn
 refine To func69 ntmps69 λ_ F _ _ n_ _=>?_
 try simp[cB]
 unfold Xk da
 refine cS λ_ k1=>Qc (Pm (Pa Qe (Pa (Ga Gp GQ) ?_)))
 refine Pa (La o3) (Pm (Qd (k1 (Qp (Lp (λ(x1:Nat×α×Hp×List Qj)=>[(0,.pointer (some ⟨b.x,0,none⟩)),(1,.func (.func fk) ⟨first⟩ ⟨caps⟩),(8,.int .i64 (x.n:Int)),(9,.int .i64 (x1.1:Int))]) (λx1=>x1.2.2.1) (λx1=>x1.2.2.2++F) (λx1=>x1.1<=x.n/\x1.2.1=(YM x.id x1.1).foldl step a/\rep x1.2.1 x1.2.2.1 x1.2.2.2/\R.le x1.2.2.1) (λx1=>x.n-x1.1) (0,a,R,Xk b v x::rest) (⟨Si,rfl,hL,Hp.le_refl _⟩) ?_)))))
 rintro⟨i,a2,R2,L2⟩ ⟨hi,ha2,hr2,hR2⟩
 try dsimp only
 dsimp only at hi ha2 hr2 hR2
 obtain⟨v2,y,nz,rfl,hid2,hnn2⟩:=hrep a2 R2 L2 hr2
 refine cS λ_ k2=>Qc (Pa QR (Qd (k2 (cS λ_ k3=>Qi rfl (λhc10=>?_) (λhc10=>?_)))))
 try simp[dx]at hc10
 refine Qh (k3 (cS λ_ k5=>Qp (cS λ_ k6=>Qc ?_)))
 have hin:i<x.n:=by(try simp at hc10);omega
 refine Pm (Ps (Qd (k6 (cS λ_ k7=>Qc ?_))))
 refine Pm (Pm (Pa Qe (Pa (Ga Gp GQ) ?_)))
 refine Pa ((Yld.to (u:=.int .i64 (x.id:Int)) (La o3) (by rw[hid2]))) (Pa Yp (Qd (k7 (Qi rfl (λhc17=>?_) (λhc17=>?_)))))
 have fne:¬i=x.id:=by intro h;(try simp at hc17);omega
 refine Qc (Pm (Pm (oA Qo rfl rfl hc rfl (hf R2 _ i (by rw[ha2]at hr2;exact hr2) hin fne) (vC _ _) (λ_ _ _ _ h=>h.elim) ?_)))
 rintro r R3 L3 hR3 hr3
 rw[<-ha2]at hr3
 refine Qd (k5 (Qc (Pa Qz (Pm (Qd (ro rfl (rd ((i+1,step a2 i,R3,L3)) (⟨by dsimp only;omega,by dsimp only;rw[jy,ac fne,KZ,<-ha2];rfl,hr3,Hp.le_trans hR2 hR3⟩) Do)))))))
 have feq:i=x.id:=by(try simp at hc17);omega
 refine Qh (k5 (Qc (Pa Qz (Pm (Qd (ro rfl (rd ((i+1,a2,R2,Xk b v2 y::nz)) (⟨by dsimp only;omega,by dsimp only;rw[jy,an feq];exact ha2,hr2,hR2⟩) Do)))))))
 try simp[dx]at hc10
 refine QG (n_ ?_)
 obtain rfl:i=x.n:=by(try simp at hc10);omega
 apply ay results69 .nil _ (Xk b v2 y::nz) hR2 rfl
 case hp=>rw[ha2]at hr2;exact hr2
 case hS=>exact .refl _
def jz(id:Nat):∀i,(YM id i).length<=i
 |0=>by simp[YM]
 |i+1=>by
  have:=jz id i;rw[jy];split;.omega
  simp;omega
def ND.stamp(x:ND)(m:Msg):Msg:={m with frm:=x.id,term:=x.g.term}
def ND.sends(x:ND)(l:List Msg):ND:={x with out:=x.out++l.map x.stamp}
def pH(x:ND)(l:List Nat):l.foldl ND.feed x=x.sends (l.map x.feedMsg):=by
 have:∀(l:List Nat) (o:List Msg),l.foldl ND.feed {x with out:=o}={x with out:=o++(l.map x.feedMsg).map x.stamp}:=by
  intro l;induction l with
  |nil=>intro o;simp
  |cons i l ih=>
   intro o;rw[It,show ND.feed {x with out:=o} i={x with out:=o++[x.stamp (x.feedMsg i)]}from rfl,ih];simp
 exact this l x.out
def yM(x:ND)(l:List Nat):l.foldl ND.ask x=x.sends (l.map x.askMsg):=by
 have:∀(l:List Nat) (o:List Msg),l.foldl ND.ask {x with out:=o}={x with out:=o++(l.map x.askMsg).map x.stamp}:=by
  intro l;induction l with
  |nil=>intro o;simp
  |cons i l ih=>
   intro o;rw[It,show ND.ask {x with out:=o} i={x with out:=o++[x.stamp (x.askMsg i)]}from rfl,ih];simp
 exact this l x.out
def NIn.sends{k:Nat}{x:ND}(h:NIn k x)(l:List Msg)(hl:l.length<=20):NIn (k+1) (x.sends l):=by
 have h1:=h.le (show k<=k+1 by omega);exact⟨h1.idn,h1.term,h1.vote,h1.base,h1.baseT,h1.state,h1.alln,h1.all,h1.commit,h1.patience,h1.peers,h1.peer,h1.votes,by have:=h.out;unfold ND.sends;simp;omega⟩
def NV.outs(v:NV)(x:ND)(R:Hp)(y:ND)(L:List Qj)(b:NB):Prop:=
 ∃vo css,Els msgE R y.out css/\vo.oneCell'=true/\L=[Xk b (v.sent vo css) y,Yo b (v.sent vo css) y,Zy (v.sent vo css) y,Yu (v.sent vo css) y]
def NOk.sent{v:NV}(h:NOk R v x)(hR:R.le R'){y:ND}(hy:y.g=x.g/\y.role=x.role){vo:Value}{css:List (List Value)}(ho:Els msgE R' y.out css)(hvo:vo.oneCell'=true):NOk R' (v.sent vo css) y:=
 ⟨by rw[hy.1];exact h.va.mono hR,ho,h.vm,h.vp,hvo,by rw[hy.2];exact h.map⟩
def mU(b:NB)(v:NV)(x:ND)(k:Nat)(hk:k<=80)(hx:NIn k x)(hv:NOk R v x)(hp:x.peers.length=x.n):
  Tri prog 69 [.pointer (some ⟨b.x,0,none⟩),.func (.func 70) ⟨[.pointer (some ⟨b.x,0,none⟩)]⟩ ⟨[]⟩] R [Xk b v x,Yo b v x,Zy v x,Yu v x]
   (λr R' L'=>v.outs x R' x.feedAll L' b):=by
 have hidn:=hx.idn;have:=iK (R:=R) b x.id x.n 70 [.pointer (some ⟨b.x,0,none⟩)] [] call70 ND.feed (λy R' L'=>R.le R'/\y.id=x.id/\y.n=x.n/\v.outs x R' y L' b)
  (λy R' L' ⟨_,h1,h2,vo,css,_,_,h3⟩=>⟨v.sent vo css,y,_,h3,h1,h2⟩) hidn.2 x _ ⟨Hp.le_refl R,rfl,rfl,v.vo,v.css,hv.out,hv.vo,rfl⟩
  (λR2 L2 i ⟨hR2,h1,h2,vo,css,hels,hvo,h3⟩ hin hne=>by
   subst h3
   rw[pH]at*
   have hsend:=hx.sends ((YM x.id i).map x.feedMsg) (by have:=jz x.id i;simp;omega)
   have hft:=pI (R:=R2) b (v.sent vo css) (x.sends ((YM x.id i).map x.feedMsg)) (k+1) Om hsend (hv.sent (y:=x.sends ((YM x.id i).map x.feedMsg)) hR2 ⟨rfl,rfl⟩ hels hvo) i (by show i<x.peers.length;omega)
   refine Tri.mono hft (λr R3 L3 hR3 ⟨vo3,css3,he3,ho3,hL3⟩=>⟨Hp.le_trans hR2 hR3,rfl,rfl,vo3,css3,he3,ho3,hL3⟩) (λ_ _ _ _ h=>h))
 exact Tri.mono this (λr R' L' hR h=>h.2.2.2) (λ_ _ _ _ h=>h)
def LG.last_b{g:LG}(hg:g.ok):0<=g.last/\g.last<=1000000000100000:=by
 have h1:=hg.base;have h2:=hg.alln;unfold LG.last;omega
def FO(b:NB)(v:NV)(x:ND)(k:Nat)(hk:k<=90)(hx:NIn k x)(hv:NOk R v x)(i bX bL:Nat):
  Tri prog 93 [.int .i64 (i:Int),.pointer (some ⟨bX,0,none⟩),.pointer (some ⟨bL,0,none⟩)] R [Xk b v x,Yo b v x,Yu v x,QA bX [.pointer (some ⟨b.x,0,none⟩)] 56,QA bL [.int .u64 x.g.last] 36]
   (λr R' L'=>∃vo css,Els msgE R' (x.ask i).out css/\vo.oneCell'=true/\L'=[Xk b (v.sent vo css) (x.ask i),Yo b (v.sent vo css) (x.ask i),Yu (v.sent vo css) (x.ask i),QA bX [.pointer (some ⟨b.x,0,none⟩)] 56,QA bL [.int .u64 x.g.last] 36]):=by
 have hg:=hx.g Om;have hlb:=LG.last_b hg;have ho:=hx.out;have hva:=hv.va;refine To func93 ntmps93 λ_ F _ _ n_ _=>?_;try simp[cB]
 refine mG (L:=[QA bX [.pointer (some ⟨b.x,0,none⟩)] 56,QA bL [.int .u64 x.g.last] 36,Xk b v x,Yo b v x]) [0,1,2,3,4,5,6] [] [7] (Wc rfl (La XH) (Wc rfl (Qf rfl) ?_));refine Wc rfl (La QO) ?_;refine Wc rfl (La XH) ?_;refine Wc rfl (La QO) ?_;refine Wa rfl (λR1 hR1 G=>(Ca call91 (aP b v x hg (hva.mono hR1) x.g.last (by unfold QQ;omega)))) (Wc rfl (Xh (cells:=[_,_,_,_,_,_,_,_,_,_]) [(0,1),(1,1),(2,1),(3,1),(4,1),(5,1),(6,1),(7,1),(8,1),(9,1)] GF Ia (λ_=>rfl) rfl rfl) (Xq (Xt ?_)));try simp[cC]
 refine Ra MR (fQ b v x (x.askMsg i) (.slice none 0 0) hv.out hv.vo Om FrX.nil) ?_;rintro r R2 L' hR2 ⟨vo,css,hels,hvo2,rfl⟩;try simp[cB]
 exact Qd (n_ (Et results93 [Xk b (v.sent vo css) (x.ask i),Yo b (v.sent vo css) (x.ask i),Yu (v.sent vo css) (x.ask i),QA bX [.pointer (some ⟨b.x,0,none⟩)] 56,QA bL [.int .u64 x.g.last] 36] (by first|exact hR2|exact Hp.le_trans ‹_› hR2) ⟨vo,css,hels,hvo2,rfl⟩))
def AB(b:NB)(v:NV)(x:ND)(k:Nat)(hk:k<=80)(hx:NIn k x)(hv:NOk R v x)(bX bL:Nat):
  Tri prog 69 [.pointer (some ⟨b.x,0,none⟩),.func (.func 93) ⟨[]⟩ ⟨[.pointer (some ⟨bX,0,none⟩),.pointer (some ⟨bL,0,none⟩)]⟩] R [Xk b v x,Yo b v x,Yu v x,QA bX [.pointer (some ⟨b.x,0,none⟩)] 56,QA bL [.int .u64 x.g.last] 36]
   (λr R' L'=>∃vo css,Els msgE R' x.askAll.out css/\vo.oneCell'=true/\L'=[Xk b (v.sent vo css) x.askAll,Yo b (v.sent vo css) x.askAll,Yu (v.sent vo css) x.askAll,QA bX [.pointer (some ⟨b.x,0,none⟩)] 56,QA bL [.int .u64 x.g.last] 36]):=by
 have hidn:=hx.idn;have:=iK (R:=R) b x.id x.n 93 [] [.pointer (some ⟨bX,0,none⟩),.pointer (some ⟨bL,0,none⟩)] call93 ND.ask (λy R' L'=>R.le R'/\y.id=x.id/\y.n=x.n/\∃vo css,Els msgE R' y.out css/\vo.oneCell'=true/\L'=[Xk b (v.sent vo css) y,Yo b (v.sent vo css) y,Yu (v.sent vo css) y,QA bX [.pointer (some ⟨b.x,0,none⟩)] 56,QA bL [.int .u64 x.g.last] 36])
  (λy R' L' ⟨_,h1,h2,vo,css,_,_,h3⟩=>⟨v.sent vo css,y,_,h3,h1,h2⟩) hidn.2 x _ ⟨Hp.le_refl R,rfl,rfl,v.vo,v.css,hv.out,hv.vo,rfl⟩
  (λR2 L2 i ⟨hR2,h1,h2,vo,css,hels,hvo,h3⟩ hin hne=>by
   subst h3
   rw[yM]at*
   have hsend:=hx.sends ((YM x.id i).map x.askMsg) (by have:=jz x.id i;simp;omega)
   have hft:=FO (R:=R2) b (v.sent vo css) (x.sends ((YM x.id i).map x.askMsg)) (k+1) Om hsend (hv.sent (y:=x.sends ((YM x.id i).map x.askMsg)) hR2 ⟨rfl,rfl⟩ hels hvo) i bX bL
   refine Tri.mono hft (λr R3 L3 hR3 ⟨vo3,css3,he3,ho3,hL3⟩=>⟨Hp.le_trans hR2 hR3,rfl,rfl,vo3,css3,he3,ho3,hL3⟩) (λ_ _ _ _ h=>h))
 exact Tri.mono this (λr R' L' hR h=>h.2.2.2) (λ_ _ _ _ h=>h)
def At(b:NB)(v:NV)(x:ND)(l:List Int)(vr:Value)(hvr:vr.oneCell'=true)(hl:l.length<=100)(i:Nat)(hi:i<x.peers.length)(hp:x.peers.length<=9)(bX bR:Nat):
  Tri prog 109 [.int .i64 (i:Int),.pointer (some ⟨bR,0,none⟩),.pointer (some ⟨bX,0,none⟩)] R [Xk b v x,Zy v x,QA bX [.pointer (some ⟨b.x,0,none⟩)] 56,QA bR [vr] 75,QN 36 1 vr l.length (Yt l)]
   (λr R' L'=>∃vr',vr'.oneCell'=true/\L'=[Xk b v x,Zy v x,QA bX [.pointer (some ⟨b.x,0,none⟩)] 56,QA bR [vr'] 75,QN 36 1 vr' (l++[x.mat i]).length (Yt (l++[x.mat i]))]):=by
 have hnx:ZO (XT x.peers) (((i:Nat):Int).toNat*2+1)=some (.int .u64 (x.mat i)):=(jP x.peers i _ rfl hi).2;have hul:=eq l;refine To func109 ntmps109 λ_ F _ _ n_ _=>?_;try simp[cB]
 refine mG (L:=[QA bX [.pointer (some ⟨b.x,0,none⟩)] 56,QA bR [vr] 75,Xk b v x,Zy v x]) [0,1,2,3,4,5,6,7,8] [9] [10,11] (Wc rfl (La zI) ?_);refine Wc rfl (La XH) (Wc rfl (Qe rfl) ?_);refine Wc rfl (Ga Gp KH) ?_;refine Wc rfl (La lF) (Wc rfl (Qf rfl) ?_);refine Wc rfl (Xn JI LR) (Wc rfl (qR (k:=1) IC rfl (m:=1) Dc Gw rfl Qm Om) (Wc rfl (XC QO rfl Qm hnx) (Xq (QT rfl ?_))));try simp[cC]
 refine Qv (sz:=1) Qo rfl GR Gw IN rfl rfl rfl Dc Dc (λb13=>QU QB Qw (Xt ?_));try simp[cC]
 refine QZ (sz:=1) (by_:=8) ⟨GR,_,_,rfl,rfl,rfl,rfl,rfl⟩ Qo rfl rfl rfl Qm (XL (xs:=[.int .u64 (x.mat i)]) GR Qm (by simp[Value.oneCell'])) rfl Qu (by simp[maxLen];omega) (λv14 ho14 hh14=>?_);rw[show Yt l++[Value.int .u64 (x.mat i)]=Yt (l++[x.mat i])by simp[Yt],show l.length+1=(l++[x.mat i]).length by simp];refine Sa zI ?_;exact Qd (n_ (Et results109 [Xk b v x,Zy v x,QA bX [.pointer (some ⟨b.x,0,none⟩)] 56,QA bR [v14] 75,QN 36 1 v14 (l++[x.mat i]).length (Yt (l++[x.mat i]))] (by first|exact Hp.le_refl _|assumption) ⟨v14,by assumption,rfl⟩))
def gu{α β:Type}(f:α->β):∀(l:List α) (a:List β),l.foldl (λl i=>l++[f i]) a=a++l.map f
 |[],a=>Si
 |i::l,a=>by rw[It,gu f l];simp
def rz{id:Nat}(h:id<n):(YM id n).length+1=n:=by
 induction n with
 |zero=>omega
 |succ n ih=>
  rw[jy];by_cases hn:n=id;.subst hn;rw[an rfl];unfold YM;rw[List.filter_eq_self.2 (λa ha=>by simp at ha|-;omega)];simp
  rw[ac hn];simp;exact ih Om
def fZ(h:x.id<x.n):x.reach.length=x.n:=by
 unfold ND.reach;rw[GD,H8];exact rz h
def xu(h:nf l l.length):l.Pairwise (λa b=>decide (a<=b)=true):=by
 rw[Jj];intro i j hi hj hij;have:=h i j hij hj;simpa[Gt,b7 hi,b7 hj]using this
def Ei(hp:l.Perm x.reach)(hs:nf l l.length):l.getD ((x.n-1)/2) 0=x.mid:=by
 have h1:=JT x.reach (λa b=>decide (a<=b));have h2:=Ki (le:=λ(a b:Int)=>decide (a<=b)) (λa b c h1 h2=>by simp at*;omega) (λa b=>by simp;omega) x.reach;have:l=x.reach.mergeSort (λa b=>decide (a<=b)):=LP (le:=λ(a b:Int)=>decide (a<=b)=true) (λa b _ _ h1 h2=>by simp at*;omega) (xu hs) h2 (hp.trans h1.symm);unfold ND.mid;rw[this]
def dQ(h:x.id<x.n):x.mid∈x.reach:=by
 have h1:=JT x.reach (λa b=>decide (a<=b));have h2:=h1.length_eq;rw[fZ h]at h2;unfold ND.mid;have h3:(x.n-1)/2<(x.reach.mergeSort (λa b=>decide (a<=b))).length:=by rw[h2];omega
 rw[Gt,b7 h3];exact h1.subset (Kj h3)
def Fy(hx:NIn k x)(i:Nat):0<=x.mat i/\x.mat i<=150000000000000:=by
 unfold ND.mat;by_cases hi:i<x.peers.length
 .have:x.peers.getD i (0,0)∈x.peers:=by rw[Gt,b7 hi];simp
  exact(hx.peer _ this).2
 rw[Gt,Ho Om];decide
def A5(hk:k<=100)(hx:NIn k x):0<=x.mid/\x.mid<=150000000000000:=by
 have h:=dQ hx.idn.1;unfold ND.reach at h;rcases Gn.1 h with h|h
 .rw[h];have h1:=hx.base;have h2:=hx.alln;unfold LG.last;omega
 let⟨i,_,hi⟩:=Gu.1 h;rw[<-hi];exact Fy hx i
def uM(b:NB)(v:NV)(x:ND)(vr:Value)(hvr:vr.oneCell'=true)(k:Nat)(hx:NIn k x)(hp:x.peers.length=x.n)(bX bR:Nat):
  Tri prog 69 [.pointer (some ⟨b.x,0,none⟩),.func (.func 109) ⟨[]⟩ ⟨[.pointer (some ⟨bR,0,none⟩),.pointer (some ⟨bX,0,none⟩)]⟩] R [Xk b v x,Zy v x,QA bX [.pointer (some ⟨b.x,0,none⟩)] 56,QA bR [vr] 75,QN 36 1 vr 1 (Yt [x.g.last])]
   (λr R' L'=>∃vr',vr'.oneCell'=true/\L'=[Xk b v x,Zy v x,QA bX [.pointer (some ⟨b.x,0,none⟩)] 56,QA bR [vr'] 75,QN 36 1 vr' x.reach.length (Yt x.reach)]):=by
 have hidn:=hx.idn;have:=iK (R:=R) b x.id x.n 109 [] [.pointer (some ⟨bR,0,none⟩),.pointer (some ⟨bX,0,none⟩)] call109 (λl i=>l++[x.mat i]) (λl R' L'=>∃vr',vr'.oneCell'=true/\L'=[Xk b v x,Zy v x,QA bX [.pointer (some ⟨b.x,0,none⟩)] 56,QA bR [vr'] 75,QN 36 1 vr' l.length (Yt l)])
  (λy R' L' ⟨vr',_,h3⟩=>⟨v,x,_,h3,rfl,rfl⟩) hidn.2 [x.g.last] _ ⟨vr,hvr,rfl⟩
  (λR2 L2 i ⟨vr',hvr',h3⟩ hin hne=>by
   subst h3
   rw[gu]at*
   have hlen:([x.g.last]++(YM x.id i).map x.mat).length<=100:=by have:=jz x.id i;simp;omega
   exact At (R:=R2) b v x _ vr' hvr' hlen i Om Om bX bR)
 rw[gu]at this;exact this
def tb(b:NB)(v:NV)(x:ND)(k:Nat)(hk:k<=90)(hx:NIn k x)(hva:FrX entE R x.g.all v.va)(hvp:v.vp.oneCell'=true)(hp:x.peers.length=x.n):
  Tri prog 88 [.pointer (some ⟨b.x,0,none⟩)] R [Xk b v x,Yo b v x,Zy v x] (λr R' L'=>L'=[Xk b v x.count,Yo b v x.count,Zy v x.count]):=by
 have hg:=hx.g Om
 have hidn:=hx.idn
 have hrl:=fZ hidn.1
 have hmb:=A5 Om hx
 refine To func88 ntmps88 λ_ F _ _ n_ _=>?_
 try simp[cB]
 refine cS λ_ k1=>Qc (Xc Qo rfl rfl rfl (λbX=>Qd (k1 (cS λ_ k2=>Qc (Pa (La XH) (Pa Qe (Pa (Ga Gp HO) (Pa (La Zz) (Pa (Ca JO (Zq b.l (some ⟨b.d,0,none⟩) v.va x.g hg hva)) (Qv (sz:=1) Qo rfl GR Gw IN rfl rfl rfl Dc Dc (λb9=>QC Qo rfl zeroValue75 rfl (λbR=>Sa zI (Qd (k2 (cS λ_ k3=>Qc ?_)))))))))))))))
 refine Pa (La XH) (Pa Zo (Ra call69 (uM b v x (.slice (some ⟨b9,0,none⟩) 1 1) rfl k hx hp bX bR) ?_))
 rintro r R2 L' hR2 ⟨vr,hvr,rfl⟩
 try simp[cB]
 refine Qd (k3 (cS λ_ k4=>Qc (Pa (La zI) (Ra call110 (DH vr x.reach hvr Om) ?_))))
 rintro r R3 L' hR3 ⟨l2,hpm,hsrt,rfl⟩
 have hl2:=hpm.length_eq
 have hva3:=hva.mono (Hp.le_trans hR2 hR3)
 try simp[cB]
 refine Qd (k4 (cS λ_ k5=>dW (Qa (La zI) ?_)))
 refine Qa (La XH) (Qa (Qe rfl) ?_)
 refine Qa (Ga Gp GQ) ?_
 refine Qa (La o3) ?_
 refine Qa (Zs) ?_
 refine Qa ((Yld.to (u:=.int .i64 (((x.n-1)/2:Nat):Int)) (np rfl rfl Dc) (by rw[J1 Om,show((x.n:Int)-1)/2=(((x.n-1)/2:Nat):Int)by omega,aZ (by(simp[IntKind.min,IntKind.max,IntKind.signed,IntKind.bits,GP,H3,H7];omega))]))) ?_
 refine Qa ((Xn GR Gw)) (Qa ((Yld.to (u:=.int .u64 x.mid) (XC QO rfl Qm (dC l2 ((x.n-1)/2) _ rfl Om)) (by rw[Ei hpm hsrt]))) (Qa (Xs rfl) (Xj (k5 ?_))))
 refine cE [1,3] (cS λ_ k6=>dW ?_)
 refine Qa Qf ?_
 refine Qa (La XH) (Qa (Qe rfl) ?_)
 refine Qa (Ga Gp Gw) ?_
 refine Qa (La QO) (Qa (XG rfl rfl) (Qa (Qf rfl) ?_))
 refine ZM 30 rfl (λhg30=>?_) (λhg30=>?_)
 have f1:x.mid>x.commit:=by(try simp at hg30);omega
 refine Qb (La XH) ?_
 refine Qb Qf ?_
 refine Qb (Ca call91 (aP b v x hg hva3 x.mid (by unfold QQ;omega))) ?_
 refine Qb (La XH) ?_
 refine Qb Qe ?_
 refine Qb (Ga Gp HO) ?_
 refine Qb (La Zz) ?_
 refine Qb (Ca Jz (ZN b.l (some ⟨b.d,0,none⟩) v.va x.g)) ?_
 refine Qb QL (Qa (Qq rfl rfl) (Xj (k6 (Qi rfl (λhc40=>?_) (λhc40=>?_)))))
 first|have hc:x.count={x with commit:=x.mid}:=by unfold ND.count;rw[an ⟨f1,by simpa using hc40⟩]|skip
 refine Qc ?_
 refine Pa (La XH) (Pm ?_)
 refine Pa Qe (Pa (Ga Gp Gw) (Sa QO (Qd (n_ ?_))))
 apply ay results88 .nil _ [Xk b v x.count,Yo b v x.count,Zy v x.count] (by exact Hp.le_trans hR2 hR3) rfl
 case hp=>rfl
 case hS=>rw[hc];(repeat(first|exact zR _|(apply zP;focus(repeat(first|exact zH _|apply zT)))|apply zD|exact zA _ _))
 first|have hc:x.count=x:=by unfold ND.count;rw[ac (λh=>by have h2:=h.2;simp at hc40;exact hc40 h2)]|skip
 refine Qh (n_ ?_)
 apply ay results88 .nil _ [Xk b v x.count,Yo b v x.count,Zy v x.count] (by exact Hp.le_trans hR2 hR3) rfl
 case hp=>rfl
 case hS=>rw[hc];(repeat(first|exact zR _|(apply zP;focus(repeat(first|exact zH _|apply zT)))|apply zD|exact zA _ _))
 have f1:¬x.mid>x.commit:=by(try simp at hg30);omega
 have hc:x.count=x:=by unfold ND.count;rw[ac (λh=>f1 h.1)]
 refine Qk ?_
 refine Qk ?_
 refine Qk ?_
 refine Qk ?_
 refine Qk ?_
 refine Qk ?_
 refine Qk ?_
 refine Qk ?_
 refine Qk (Qa (Qn rfl rfl) (Xj (k6 ?_)))
 refine cE [1,3,40] (Qt rfl (Qh (n_ ?_)))
 apply ay results88 .nil _ [Xk b v x.count,Yo b v x.count,Zy v x.count] (by exact Hp.le_trans hR2 hR3) rfl
 case hp=>rfl
 case hS=>rw[hc];(repeat(first|exact zR _|(apply zP;focus(repeat(first|exact zH _|apply zT)))|apply zD|exact zA _ _))
def eP:PanicEntry:=⟨.iface 156 (.agg ⟨[]⟩),false,false⟩
@[reducible] def dy (b : NB) (F : Bool × NS) (r : Value) (R' : Hp) (L' : List Qj) : Prop := F.1 = true ∧ ∃ v', NOk R' v' F.2.1 ∧ L' = XA b v' F.2.1 F.2.2
@[reducible] def dz (b : NB) (F : Bool × NS) (ch : List PanicEntry) (R' : Hp) (L' : List Qj) : Prop := F.1 = false ∧ ch = [eP] ∧ ∃ v', NOk R' v' F.2.1 ∧ L' = XA b v' F.2.1 F.2.2
def bY(b:NB)(v:NV)(x:ND)(e:Int):Tri prog 74 [.pointer (some ⟨b.x,0,none⟩),.int .i64 e] R [Xk b v x]
  (λr R' L'=>e=0/\L'=[Xk b v x]) (λch R' L'=>¬e=0/\ch=[eP]/\L'=[Xk b v {x with down:=true}]):=by
 refine To func74 ntmps74 λ_ F _ _ n_ hpan=>?_;try simp[cB]
 refine cS λ_ k1=>Qc (Pm (Pa Yp (Qd (k1 (Qi rfl (λhc5=>?_) (λhc5=>?_))))));have f1:¬e=0:=by simpa using hc5
 refine cS λ_ k3=>Qc (Pm (Pa Qe ?_));exact Pa (Ga Gp Il) (Sa o4 (Qd (k3 (cE [] (Qc (Pa (Xh (cells:=[]) [] underlying156 zeroValue156 (λ_=>rfl)) (Pa (kb underlying156 rfl) (xD Qo rfl (hpan _ _ _ _ (Zm _ ([Xk b v {x with down:=true}]) (by first|exact Hp.le_refl _|assumption|exact Hp.le_trans ‹_› ‹_›) rfl Qw ⟨f1,rfl,rfl⟩))))))))));have f1:e=0:=by simpa using hc5
 exact Qh (n_ (Et results74 [Xk b v x] (Hp.le_refl _) ⟨f1,rfl⟩))
def hO{g:LG}{i:Int}{m:List Qy}(h:(g.addD D i m).1=0):(g.addD D i m).2.1=g.play (.add i m):=by
 unfold LG.addD at h|-;split at h;.cases h
 split at h;.cases h
 split at h;.rename_i h1 h2 h3;rw[ac h1,ac h2,an h3]
 rename_i h3;exact Gr h h3
def lq{g:LG}(h:(g.setTermD D t vt).1=0):(g.setTermD D t vt).2.1={g with term:=t,vote:=vt}:=by
 unfold LG.setTermD at h|-;split at h;.cases h
 split at h;.cases h
 split at h;.rename_i h1 h2 h3;rw[ac h1,ac h2,an h3]
 rename_i h3;exact Gr h h3
def NIn.add(h:NIn k x){i:Int}{m:List Qy}(hm:∀e∈m,(0<=e.1/\e.1<=2305843009213693952+k)/\e.2.length<=100)(hl:m.length<=20):NIn (k+1) {x with g:=x.g.play (.add i m)}:=by
 have h1:=h.le (show k<=k+1 by omega);refine⟨h1.idn,h1.term,h1.vote,h1.base,h1.baseT,h1.state,?_,λe he=>?_,h1.commit,h1.patience,h1.peers,h1.peer,h1.votes,h1.out⟩;.have:=h.alln;show(x.g.all.take _++m).length<=_;simp;omega
 rcases GE.1 he with he|he;.exact h1.all e (I1 he)
 have:=hm e he;omega
def NIn.count{k:Nat}{x:ND}(hk:k<=100)(h:NIn k x):NIn k x.count:=by
 unfold ND.count;split;.exact⟨h.idn,h.term,h.vote,h.base,h.baseT,h.state,h.alln,h.all,A5 hk h,h.patience,h.peers,h.peer,h.votes,h.out⟩
 exact h
def YU(x:ND):x.count.out=x.out/\x.count.g=x.g/\x.count.role=x.role/\x.count.peers=x.peers/\x.count.n=x.n/\x.count.votes=x.votes:=by
 unfold ND.count;split<;>exact⟨rfl,rfl,rfl,rfl,rfl,rfl⟩
def NV.logd(v:NV)(u va:Value):NV:={v with u:=u,va:=va}
def NOk.logd{v:NV}(h:NOk R v x)(hR:R.le R'){y:ND}(hy:y.out=x.out/\y.role=x.role){u va:Value}(hva:FrX entE R' y.g.all va):NOk R' (v.logd u va) y:=
 ⟨hva,by rw[hy.1];exact h.out.mono hR,h.vm,h.vp,h.vo,by rw[hy.2];exact h.map⟩
def NOk.to{v:NV}(h:NOk R v x)(hR:R.le R'){y:ND}(hy:y.out=x.out/\y.role=x.role/\y.g.all=x.g.all):NOk R' v y:=
 ⟨by rw[hy.2.2];exact h.va.mono hR,by rw[hy.1];exact h.out.mono hR,h.vm,h.vp,h.vo,by rw[hy.2.1];exact h.map⟩
def sb(x:ND)(l:List Msg):(x.sends l).g=x.g/\(x.sends l).role=x.role:=⟨rfl,rfl⟩
def Xe(x:ND):x.feedAll=x.sends (x.others.map x.feedMsg):=pH x _
def cq(x:ND):∃c,x.count={x with commit:=c}:=by
 unfold ND.count;split;.exact⟨_,rfl⟩
 exact⟨x.commit,rfl⟩
def sR(b:NB)(v:NV)(x:ND)(D:DK)(cmd:Bs)(k m:Nat)(hk:k<=60)(hx:NIn k x)(hv:NOk R v x)(hp:x.peers.length=x.n)(hcmd:cmd.length<=100)(hD:D.ok m)(hm:m<=900000000):
  Tri prog 64 [.pointer (some ⟨b.x,0,none⟩),.string (Qs cmd)] R (XA b v x D) (dy b (Xb (x,D) cmd)) (dz b (Xb (x,D) cmd)):=by
 have hg:=hx.g Om;have hlb:=LG.last_b hg;have hva:=hv.va;have hterm:=hx.term;have hob:=hx.base;obtain⟨ra,hra⟩:∃r,r=x.g.addD D x.g.last [(x.g.term,cmd)]:=⟨_,rfl⟩;have hE:Xb (x,D) cmd=Xo (QY (x,D) ra) λs=>(true,(s.1.count.feedAll,s.2)):=by rw[hra];rfl
 refine To func64 ntmps64 λ_ F _ _ n_ hpan=>?_;try simp[cB]
 refine cS λ_ k1=>mG (L:=[Xk b v x]) [0,1,2,3,4,5,6,7,8,10,11,12,13,15] [9,14,16,17,18] [19] (Wc rfl Qf (Wc rfl (Qf rfl) (Wc rfl (Qe rfl) ?_)));refine Wc rfl (Ga Gp HO) ?_;refine Wc rfl (La Zz) (Wc rfl (Qf rfl) (Wc rfl (Qe rfl) ?_));refine Wc rfl (Ga Gp HO) ?_;refine Wc rfl (La Zz) (Wc rfl (Qf rfl) (Wc rfl (Qe rfl) ?_));refine Wc rfl (Ga Gp HO) ?_;refine Wc rfl (La Zz) (Wc rfl (Qf rfl) (Xq (QT rfl ?_)));try simp[cC]
 refine Pa (Ca JO (Zq b.l (some ⟨b.d,0,none⟩) v.va x.g hg hva)) (QU QB Qw (QT rfl ?_));try simp[cC]
 refine Pa (Ca Jz (ZN b.l (some ⟨b.d,0,none⟩) v.va x.g)) (QU QB Qw (QT rfl ?_));try simp[cC]
 refine Pa (Xh (cells:=[_,_]) [(0,1),(1,1)] IB H2 (λ_=>rfl)) (QU QB Qw (QT rfl ?_));try simp[cC]
 refine Qv (sz:=2) Qo rfl GN Iy H2 rfl rfl rfl Dc Dc (λb21=>QU QB Qw (QT rfl ?_));try simp[cC]
 refine YC (e:=93) (sz:=2) (n:=1) (v:=.slice (some ⟨b21,0,none⟩) 1 1) (xs:=Zp [(x.g.term,cmd)]) Qm (λR3 hR3 hfr hxl=>?_);have hvm:=gz (l:=[(x.g.term,cmd)]) hfr;refine Ra call87 (lN b.l b.d v.va v.u _ x.g D m x.g.last [(x.g.term,cmd)] hg (by unfold QQ;omega) (hva.mono hR3) hvm Si (by simp[QQ];omega) (by simp[Yc];omega) hD hm) ?_;rintro r R4 L' hR4 ⟨rfl,u2,va2,hva2,rfl⟩;rw[<-hra]at hva2|-;have hR34:=Hp.le_trans hR3 hR4;try simp[cB]
 refine QU QB Qw (Xt ?_);try simp[cC]
 refine XW Qo rfl LE rfl (bY b (v.logd u2 va2) x _) Za (λch Rp Lp hRp hpp=>?_) ?_
 .obtain⟨he1,rfl,rfl⟩:=hpp;try simp[cB]
  exact hpan _ _ _ _ (Zm _ (XA b (v.logd u2 va2) {x with g:=ra.2.1,down:=true} ra.2.2) (by first|exact Hp.le_refl _|assumption|exact Hp.le_trans ‹_› ‹_›|exact Hp.le_trans hR34 hRp) rfl Qw ⟨by rw[hE];simp[Xo,QY,he1],rfl,v.logd u2 va2,by rw[hE];simp[Xo,QY,ac he1];exact hv.logd (y:={x with g:=ra.2.1,down:=true}) (Hp.le_trans hR34 hRp) ⟨rfl,rfl⟩ (hva2.mono hRp),by rw[hE];simp[Xo,QY,he1]⟩)
 rintro r R5 L' hR5 ⟨he0,rfl⟩;have hx1:NIn (k+1) {x with g:=ra.2.1}:=by rw[hra,hO (by rw[<-hra];exact he0)];exact hx.add (λe he=>by simp at he;subst he;exact⟨⟨Om,Om⟩,hcmd⟩) Si
 have hR35:=Hp.le_trans hR34 hR5;try simp[cB]
 refine Qd (k1 (cS λ_ k2=>Qc (Pm (Ra call88 (tb b (v.logd u2 va2) {x with g:=ra.2.1} (k+1) Om hx1 (hva2.mono hR5) hv.vp hp) ?_))));rintro r R6 L' hR6 rfl;have hx2:=NIn.count Om hx1;obtain⟨c,hc⟩:=cq {x with g:=ra.2.1};rw[hc]at hx2|-;have hR36:=Hp.le_trans hR35 hR6;have hv2:NOk R6 (v.logd u2 va2) {x with g:=ra.2.1,commit:=c}:=hv.logd (y:={x with g:=ra.2.1,commit:=c}) hR36 ⟨rfl,rfl⟩ ((hva2.mono hR5).mono hR6);try simp[cB]
 refine Qd (k2 (Qc (Pm (Pm (Pa Zo (Ra call69 (mU b (v.logd u2 va2) {x with g:=ra.2.1,commit:=c} (k+1) Om hx2 hv2 hp) ?_))))));rintro r R7 L' hR7 ⟨vo,css,hels,hvo,rfl⟩;try simp[cB]
 refine Qd (n_ ?_);have hF:Xb (x,D) cmd=(true,(ND.feedAll {x with g:=ra.2.1,commit:=c},ra.2.2)):=by rw[hE];simp[Xo,QY,he0,hc]
 apply ay results64 .nil _ (XA b ((v.logd u2 va2).sent vo css) (ND.feedAll {x with g:=ra.2.1,commit:=c}) ra.2.2) (Hp.le_trans hR36 hR7) rfl;case hp=>rw[hF];exact⟨rfl,_,hv2.sent hR7 (by rw[Xe];exact sb _ _) hels hvo,rfl⟩
 case hS=>rw[Xe]at*;(repeat(first|exact zR _|(apply zP;focus(repeat(first|exact zH _|apply zT)))|apply zD|exact zA _ _))
section
variable{c:Cx}{ops:Array Oper}{Q:Exit->Act->World->Prop}{E:Env}{R:Hp}{L:List Qj}{rest:List Oper}{ty:TypeId}{p:String}{af:Array Edge}{g:Option (Nat×Bool)}
def Cn(z:List Value)(n:Nat)(h:z≠[]):madeCells ⟨z⟩ (n*z.length)=⟨(List.replicate n z).flatten⟩:=by
 have hl:0<z.length:=List.length_pos_iff.2 h;apply J6;simp[madeCells,Array.toList_map,Array.toList_range];apply Ir;intro i;rw[HD];by_cases hi:i<n*z.length
 .have hm:i%z.length<z.length:=M1 _ hl;have hd:i/z.length<n:=by rw[Mq hl];exact hi
  have h1:=i4 (n:=z.length) (css:=List.replicate n z) (i:=i/z.length) (cs:=z) (j:=i%z.length) (u:=z[i%z.length]) (λc hc=>by rw[Jp hc]) (by rw[Jx,an hd]) (b7 hm);rw[I0,Nat.div_add_mod]at h1;rw[h1,List.getElem?_range hi];simp[hm]
 rw[Ho (by simp;omega),Ho (by
  rw[iZ (n:=z.length) (λc hc=>by rw[Jp hc])];simp;omega)]
 rfl
def oz{dd:Nat}{x:Operand}{t e:TypeId}{i:TypeInfo}{zz:Value}{sz:Nat}{z:List Value}(hw:Wn c ops E ⟨some dd,.makeSlice t x x,ty,p,af,g⟩ true)(hn:Nat.blt dd c.n=true)(ht:c.P.underlying t=some (.slice e))(hi:c.P.info? e=some i)(hz:i.zero=some zz)
  (hzc:zz.cells=⟨z⟩) (hsz:i.size=sz) (hzl:z.length=sz) (h0:0<sz) (e1:ev E x=some (.int .i64 (n:Int))) (hb:i.bytes*n<=281474976710656) (hm:n<=maxLen)
  (h:∀b,RJ c ops Q rest ((dd,.slice (some ⟨b,0,none⟩) n n)::E) R (QN e sz (.slice (some ⟨b,0,none⟩) n n) n (List.replicate n z).flatten::L)):RJ c ops Q (⟨some dd,.makeSlice t x x,ty,p,af,g⟩::rest) E R L:=by
 subst hsz;refine fX (v:=λb=>.slice (some ⟨b,0,none⟩) n n) (L':=λb=>QN e i.size (.slice (some ⟨b,0,none⟩) n n) n (List.replicate n z).flatten::L) hw rfl hn (λa w hf hs=>⟨w.heap.size,w.alloc (.cells ⟨(List.replicate n z).flatten⟩ e (0,0)),?_,?_⟩) h
 .have hb':(i.bytes:Int)*(n:Int)<=281474976710656:=by rw[<-Kt];omega
  have hm':(n:Int)<=9223372036854775807:=by unfold maxLen at hm;omega
  have:=run_make (P:=c.P) w t e i zz ht hi hz .i64 .i64 n n Om Om hb' hm';rw[hzc,show((n:Nat):Int).toNat=n by simp,<-hzl,Cn z n (by intro h;rw[h]at hzl;simp at hzl;omega)]at this;simp[execOp,hf.ev e1,this]
 refine Sat.turn (λh hh=>?_) (hs.alloc (.cells ⟨(List.replicate n z).flatten⟩ e (0,0)));have hxl:(List.replicate n z).flatten.length=n*i.size:=by
  rw[iZ (n:=i.size) (λc hc=>by rw[Jp hc];exact hzl)];simp
 exact⟨hxl,.inr ⟨w.heap.size,n,(0,0),[],[],rfl,by simpa using hh,λo _ h=>by simp at h,Gl _,hm,by simp[hxl]⟩⟩
variable{M:List Qj}
def vM{t kt et:TypeId}{m x:Operand}{a:Int}(hm:c.P.underlying t=some (.map kt et))(hd:c.P.underlying kt=some (.int ik))
  (hw:Wn c ops E ⟨none,.insert t m x y,ty,p,af,g⟩ true) (e1:ev E m=some (.map (some b))) (e2:ev E x=some (.int ik a)) (e3:ev E y=some v) (fd:Find (qN b ik f n) L M)
  (h:RJ c ops Q rest E R (qN b ik (yv f a v) (if(f a).isSome then n else n+1)::M)):RJ c ops Q (⟨none,.insert t m x y,ty,p,af,g⟩::rest) E R L:=by
 refine dM hw rfl (λac w hf hs=>?_) h;let⟨w',h1,h2⟩:=fv hm hd (hs.find fd) a v;exact⟨w',by simp[execOp,hf.ev e1,hf.ev e2,hf.ev e3,h1],h2⟩
end
def eK(l:List (Int×Int))(k:Nat)(z x:Int)(hz:z=k)(hk:k<l.length):yh (XT l) (z.toNat*2+0) (.int .u64 x)=XT (l.set k (x,(l.getD k (0,0)).2))/\yh (XT l) (z.toNat*2+1) (.int .u64 x)=XT (l.set k ((l.getD k (0,0)).1,x)):=by
 subst hz;rw[show((k:Nat):Int).toNat=k by simp,je,je];have key:∀(l:List (Int×Int)) (k:Nat),k<l.length->(XT l).set (k*2+0) (.int .u64 x)=XT (l.set k (x,(l.getD k (0,0)).2))/\(XT l).set (k*2+1) (.int .u64 x)=XT (l.set k ((l.getD k (0,0)).1,x)):=by
  intro l;induction l with
  |nil=>intro k h;simp at h
  |cons p l ih=>
   intro k h;cases k with
   |zero=>exact⟨rfl,rfl⟩
   |succ k=>
    let⟨h1,h2⟩:=ih k (by simpa using h);rw[I7]at h1;have e:XT (p::l)=.int .u64 p.1:: .int .u64 p.2::XT l:=rfl;rw[e,show(k+1)*2+0=k*2+0+2 by omega,show(k+1)*2+1=k*2+1+2 by omega];simp[M2,List.getD_cons_succ];rw[h1,h2];exact⟨rfl,rfl⟩
 exact key l k hk
def jn(n i:Nat)(z:Int):List (Int×Int):=List.replicate i (z,0)++List.replicate (n-i) (0,0)
def xl(h:i<=n)(z:Int):(jn n i z).length=n:=by unfold jn;simp;omega
def xk(h:i<n)(z:Int):(jn n i z).set i (z,((jn n i z).getD i (0,0)).2)=jn n (i+1) z:=by
 have e:List.replicate (n-i) ((0:Int),(0:Int))=(0,0)::List.replicate (n-(i+1)) (0,0):=by
  rw[show n-i=(n-(i+1))+1 by omega,List.replicate_succ]
 unfold jn;rw[e];have:(List.replicate i (z,(0:Int))++(0,0)::List.replicate (n-(i+1)) (0,0)).getD i (0,0)=(0,0):=by
  simp[Gt]
 rw[this,Mr _ _ Si];simp[List.replicate_succ',GA]
def xm(n:Nat)(z:Int):jn n n z=List.replicate n (z,0):=by unfold jn;simp
def uX(n:Nat)(z:Int):XT (jn n 0 z)=(List.replicate n [Value.int .u64 0,Value.int .u64 0]).flatten:=by
 unfold jn XT;simp[ko]
def NIn.wins(hk:k<=100)(h:NIn k x):NIn k x.wins:=by
 have h1:=h.base;have h2:=h.alln;have hl:x.g.last=x.g.base+x.g.all.length:=rfl
 exact⟨h.idn,h.term,h.vote,h.base,h.baseT,h.state,h.alln,h.all,h.commit,⟨by show(0:Int)<=0;omega,by show(0:Int)<=_;omega⟩,λ_=>by show(List.replicate _ _).length=_;simp;rfl,λp hp=>by
  have:=Jp hp;subst this;refine⟨⟨?_,?_⟩,?_,?_⟩<;>simp<;>omega,h.votes,h.out⟩
def AL(b:NB)(v:NV)(x:ND)(D:DK)(k m:Nat)(hk:k<=60)(hx:NIn k x)(hv:NOk R v x)(hD:D.ok m)(hm:m<=900000000):
   Tri prog 92 [.pointer (some ⟨b.x,0,none⟩)] R (XA b v x D) (dy b (qM (x,D))) (dz b (qM (x,D))):=by
 have hg:=hx.g Om
 have hlb:=LG.last_b hg
 have hva:=hv.va
 have hidn:=hx.idn
 have hE:qM (x,D)=Xb (x.wins,D) []:=rfl
 refine To func92 ntmps92 λ_ F _ _ n_ hpan=>?_
 try simp only[cB]
 refine cS λ_ k1=>Qc (Pm (Pm (Pm (Pm (Pa Qe (Pa (Ga Gp GQ) ?_))))))
 refine Pa (La o3) (Pa Qe (Pa (Ga Gp GQ) (Sa o3 (Pa Qe (Pa (Ga Gp GQ) ?_)))))
 refine Sa o3 (Pa Qe (Pa (Ga Gp GQ) ?_))
 refine Sa o3 (Qd (k1 (cS λ_ k2=>Qc (Pm (Pm ?_)))))
 refine Pa Qe (Pa (Ga Gp GQ) (Pa (La o3) (oz (sz:=2) Qo rfl JI rfl rfl rfl rfl rfl Dc rfl (by show 16*_<=_;omega) (by simp only[maxLen];omega) (λbp=>?_))))
 rw[<-uX x.n (x.g.last+1)]
 refine Pa Qe (Pa (Ga Gp KH) (Sa lF (Qd (k2 (cE [0] (cS λ_ k3=>cS λ_ k4=>Qc ?_))))))
 refine Pm (Pa Qe (Pa (Ga Gp KH) ?_))
 refine Pa (La lF) (Pa (QV JI) (Pm (Qd (k4 (Qp (Lp (λ(x1:Nat)=>[(0,.pointer (some ⟨b.x,0,none⟩)),(28,.int .i64 (x.n:Int)),(29,.int .i64 (x1:Int))]) (λx1=>R) (λx1=>QN 161 2 (.slice (some ⟨bp,0,none⟩) x.n x.n) x.n (XT (jn x.n x1 (x.g.last+1)))::Xk b {v with vp:=.slice (some ⟨bp,0,none⟩) x.n x.n} x.wins::Yo b v x::Xg b.d v.u D::Xf v.u D::za v.vm x.votes::Yu v x::F) (λx1=>x1<=x.n) (λx1=>x.n-x1) 0 Si ?_))))))
 rintro i hi
 try dsimp only
 refine cS λ_ k5=>Qc (Pa QR (Qd (k5 (cS λ_ k6=>Qi rfl (λhc30=>?_) (λhc30=>?_)))))
 .try simp only[dx]at hc30
  refine Qh (k6 (cS λ_ k8=>Qp (cS λ_ k9=>Qc ?_)))
  have hin:i<x.n:=by(try simp at hc30);omega
  have hwl:=xl (Nat.le_of_lt hin) (x.g.last+1)
  refine Pm (Ps (Qd (k9 (mG (L:=[Xk b {v with vp:=.slice (some ⟨bp,0,none⟩) x.n x.n} x.wins,Yo b v x,QN 161 2 (.slice (some ⟨bp,0,none⟩) x.n x.n) x.n (XT (jn x.n i (x.g.last+1)))]) [0,1,2,3,4,5,6,7,8,9,10,11,12] [] [13] (Wc rfl Qf (Wc rfl (Qe rfl) ?_))))))
  refine Wc rfl (Ga Gp KH) ?_
  refine Wc rfl (La lF) (Wc rfl (Qf rfl) (Wc rfl (Qf rfl) (Wc rfl (Qe rfl) ?_)))
  refine Wc rfl (Ga Gp HO) ?_
  refine Wc rfl (La Zz) ?_
  refine Wa rfl (λR1 hR1 G=>(Ca JO (Zq b.l (some ⟨b.d,0,none⟩) v.va x.g hg (hva.mono hR1)))) ?_
  refine Wc rfl Yg ?_
  refine Wc rfl (Xn JI LR) (Wc rfl (qR (k:=0) IC rfl (m:=1) Dc Gw rfl Qm Om) (Xq (Xt ?_)))
  try simp only[cC]
  refine qH (ys:=XT (jn x.n (i+1) (x.g.last+1))) QO Qo rfl rfl rfl Qm (by rw[cY,hwl];simp;omega) (by rw[(eK _ i _ _ rfl Om).1,xk hin]) Om (Qd (k8 (cE [0,28,29] (Qc ?_))))
  refine Pa Qz (Pm (Qd (ro rfl (rd (i+1) Om Om))))
 .try simp only[dx]at hc30
  refine QG (k3 (Qc ?_))
  obtain rfl:i=x.n:=by(try simp at hc30);omega
  have hpl:x.wins.peers.length=x.n:=by simp[ND.wins]
  have hvw:NOk R {v with vp:=.slice (some ⟨bp,0,none⟩) x.n x.n} x.wins:=⟨hva,hv.out,hv.vm,rfl,hv.vo,λh=>by cases h⟩
  refine Pm (XM (A:=QN 161 2 (.slice (some ⟨bp,0,none⟩) x.n x.n) x.n (XT (jn x.n x.n (x.g.last+1)))) (B:=Zy {v with vp:=.slice (some ⟨bp,0,none⟩) x.n x.n} x.wins) Qm (λh hh=>by rw[xm]at hh;show QN _ _ _ x.wins.peers.length _ h;rw[hpl];exact hh) (XW Qo rfl call64 rfl (sR b {v with vp:=.slice (some ⟨bp,0,none⟩) x.n x.n} x.wins D [] k m hk (NIn.wins Om hx) hvw hpl Si hD hm) Za (λch Rp Lp hRp hpp=>?_) ?_))
  . obtain⟨hF,rfl,v2,hv2,rfl⟩:=hpp
    try simp only[cB]
    exact hpan _ _ _ _ (Zm _ (XA b v2 (Xb (x.wins,D) []).2.1 (Xb (x.wins,D) []).2.2) (by first|exact Hp.le_refl _|assumption|exact Hp.le_trans ‹_› ‹_›) rfl Qw ⟨hF,rfl,v2,hv2,rfl⟩)
  rintro r R8 L' hR8 ⟨hF,v2,hv2,rfl⟩
  try simp only[cB]
  exact Qd (n_ (Et results92 (XA b v2 (Xb (x.wins,D) []).2.1 (Xb (x.wins,D) []).2.2) hR8 ⟨hF,v2,hv2,rfl⟩))
def NIn.set(h:NIn k x)(ht:0<=t/\t<=2305843009213693952+(k+1))(hv: -1<=vt/\vt<9):NIn (k+1) {x with g:={x.g with term:=t,vote:=vt}}:=by
 have h1:=h.le (show k<=k+1 by omega);exact⟨h1.idn,⟨ht.1,by have:=ht.2;show t<=_;omega⟩,hv,h1.base,h1.baseT,h1.state,h1.alln,h1.all,h1.commit,h1.patience,h1.peers,h1.peer,h1.votes,h1.out⟩
def tG(i:Int):yv (λ_=>none) i (.bool true)=yV [i]:=by
 funext k;unfold yv yV;by_cases h:k=i<;>simp[h]
def iE{g:LG}:(g.setTermD D t vt).2.1.all=g.all:=by
 unfold LG.setTermD;repeat(first|split|rfl)
def NIn.stands(h:NIn k x):NIn k x.stands:=
 ⟨h.idn,h.term,h.vote,h.base,h.baseT,h.state,h.alln,h.all,h.commit,⟨by show(0:Int)<=0;omega,by show(0:Int)<=_;omega⟩,λhr=>Gr (show(1:Int)=2 from hr) Dc,h.peer,⟨by show[(x.id:Int)].Nodup;simp,λi hi=>by
  have:i∈[(x.id:Int)]:=hi;simp at this;subst this;have:=h.idn;exact⟨Om,by show(x.id:Int)<x.n;omega⟩⟩,h.out⟩
def sa{g:LG}{m:Nat}(h:D.ok m)(ht:QQ t)(hv: -9223372036854775808<=vt/\vt<9223372036854775807):(g.setTermD D t vt).2.2.ok (m+44):=by
 have h0:D.ok (m+44):=⟨h.1,by have:=h.2.1;omega,h.2.2⟩;unfold LG.setTermD;split;.exact h0
 split;.exact h0
 rename_i h1 h2;have hl:=Rec.len_term ht (v:=vt) ⟨Om,hv.2⟩;have hp:=DK.put_ok h (Rec.term t vt).bytes;have hb:(Rec.term t vt).bytes.length<=44:=by unfold Rec.bytes;rw[Gm,Zh];omega
 have hq:(D.put (Rec.term t vt).bytes).2.ok (m+44):=⟨hp.1,by have:=hp.2.1;omega,hp.2.2⟩;split<;>exact hq
def r8(b:NB)(v:NV)(x:ND)(D:DK)(k m:Nat)(hk:k<=50)(hx:NIn k x)(hv:NOk R v x)(hD:D.ok m)(hm:m<=800000000):
   Tri prog 72 [.pointer (some ⟨b.x,0,none⟩)] R (XA b v x D) (dy b (YF (x,D))) (dz b (YF (x,D))):=by
 have hg:=hx.g Om
 have hva:=hv.va
 have hidn:=hx.idn
 have hterm:=hx.term
 obtain⟨ra,hra⟩:∃r,r=x.g.setTermD D (x.g.term+1) x.id:=⟨_,rfl⟩
 have hE:YF (x,D)=Xo (QY (x,D) ra) λs=>if s.1.n=1 then qM (s.1.stands,s.2)else(true,(s.1.stands.askAll,s.2)):=by rw[hra];rfl
 refine To func72 ntmps72 λ_ F _ r_ n_ hpan=>?_
 try simp[cB]
 refine cS λ_ k1=>?_
 refine Qc ?_
 refine Xc Qo rfl rfl rfl (λbX=>?_)
 refine Qd ?_
 refine k1 ?_
 refine cS λ_ k2=>?_
 refine mG (L:=[Xk b v x,QA bX [.pointer (some ⟨b.x,0,none⟩)] 56]) [0,1,2,3,4,5,6,7,8,11,12,13,14] [9,10,15] [16] ?_
 refine Wc rfl (La XH) ?_
 refine Wc rfl (La XH) ?_
 refine Wc rfl Qe ?_
 refine Wc rfl (Ga Gp HO) ?_
 refine Wc rfl (La Zz) ?_
 refine Wc rfl (La XH) ?_
 refine Wc rfl Qe ?_
 refine Wc rfl (Ga Gp HO) ?_
 refine Wc rfl (La Zz) ?_
 refine Wc rfl (La XH) ?_
 refine Wc rfl Qe ?_
 refine Wc rfl (Ga Gp GQ) ?_
 refine Wc rfl (La o3) ?_
 refine Xq ?_
 refine QT rfl ?_
 try simp[cC]
 refine Pa (Ca Jz (ZN b.l (some ⟨b.d,0,none⟩) v.va x.g)) ?_
 refine QU QB Qw ?_
 refine QT rfl ?_
 try simp[cC]
 refine Pa Yg ?_
 refine QU QB Qw ?_
 refine QT rfl ?_
 try simp[cC]
 refine Ra call75 (dm b.l b.d v.va v.u x.g D m (x.g.term+1) x.id hg (by unfold QQ;omega) Om Om hva.one hD Om) ?_
 rintro r R4 L' hR4 ⟨rfl,u2,rfl⟩
 rw[<-hra]
 have hall:ra.2.1.all=x.g.all:=by rw[hra];exact iE
 try simp[cB]
 refine QU QB Qw ?_
 refine Xt ?_
 try simp[cC]
 refine XW Qo rfl LE rfl (bY b (v.logd u2 v.va) x _) Za (λch Rp Lp hRp hpp=>?_) ?_
 . obtain⟨he1,rfl,rfl⟩:=hpp
   try simp[cB]
   refine hpan _ _ _ _ ?_
   refine Zm _ (XA b (v.logd u2 v.va) {x with g:=ra.2.1,down:=true} ra.2.2) (by first|exact Hp.le_refl _|assumption|exact Hp.le_trans ‹_› ‹_›|exact Hp.le_trans hR4 hRp) rfl Qw ?_
   exact⟨by rw[hE];simp[Xo,QY,he1],rfl,v.logd u2 v.va,by rw[hE];simp[Xo,QY,ac he1];exact hv.logd (y:={x with g:=ra.2.1,down:=true}) (Hp.le_trans hR4 hRp) ⟨rfl,rfl⟩ (by show FrX entE Rp ra.2.1.all v.va;rw[hall];exact hva.mono (Hp.le_trans hR4 hRp)),by rw[hE];simp[Xo,QY,he1]⟩
 rintro r R5 L' hR5 ⟨he0,rfl⟩
 have hx1:NIn (k+1) {x with g:=ra.2.1}:=by rw[hra,lq (by rw[<-hra];exact he0)];exact hx.set Om Om
 have hR45:=Hp.le_trans hR4 hR5
 have hv1:NOk R5 (v.logd u2 v.va) {x with g:=ra.2.1}:=hv.logd (y:={x with g:=ra.2.1}) hR45 ⟨rfl,rfl⟩ (by show FrX entE R5 ra.2.1.all v.va;rw[hall];exact hva.mono hR45)
 try simp[cB]
 refine Qd ?_
 refine k2 ?_
 refine cS λ_ k3=>?_
 refine mG (L:=[QA bX [.pointer (some ⟨b.x,0,none⟩)] 56]) [0,1,2,3,4] [5,6,7,8] [9,10,11] ?_
 refine Wc rfl (La XH) ?_
 refine Wc rfl (La XH) ?_
 refine Wc rfl (La XH) ?_
 refine Wc rfl Qe ?_
 refine Wc rfl (Ga Gp GQ) ?_
 refine Xq ?_
 refine QT rfl ?_
 try simp[cC]
 refine Sa o3 ?_
 refine QU QB Qw ?_
 refine QT rfl ?_
 try simp[cC]
 refine Pa Qe ?_
 refine QU QB Qw ?_
 refine QT rfl ?_
 try simp[cC]
 refine Pa (Ga Gp GQ) ?_
 refine QU QB Qw ?_
 refine QT rfl ?_
 try simp[cC]
 refine Sa o3 ?_
 refine QU QB Qw ?_
 refine Xt ?_
 try simp[cC]
 refine Pa Qe ?_
 refine Pa (Ga Gp GQ) ?_
 refine Sa o3 ?_
 refine Qd ?_
 refine k3 ?_
 refine cE [1] ?_
 refine cS λ_ k4=>?_
 refine mG (L:=[QA bX [.pointer (some ⟨b.x,0,none⟩)] 56,Xk b (v.logd u2 v.va) {x with role:=1,leader:= -1,patience:=0}]) [0,2,3,4,5] [1,6,7] [8,9,10] ?_
 refine Wc rfl (La XH) ?_
 refine Wc rfl (La XH) ?_
 refine Wc rfl Qe ?_
 refine Wc rfl (Ga Gp GQ) ?_
 refine Wc rfl (La o3) ?_
 refine Xq ?_
 refine QT rfl ?_
 try simp[cC]
 refine eG (ik:=.i64) Qo rfl (λbm=>?_)
 refine QU QB Qw ?_
 refine QT rfl ?_
 try simp[cC]
 refine vM Kl HA Qo rfl rfl rfl Qm ?_
 refine QU QB Qw ?_
 refine QT rfl ?_
 try simp[cC]
 refine Pm ?_
 refine QU QB Qw ?_
 refine Xt ?_
 try simp[cC]
 refine Pa Qe ?_
 refine Pa (Ga Gp sizeOf39) ?_
 refine Sa Eg ?_
 refine Qd ?_
 refine k4 ?_
 refine cS λ_ k5=>?_
 refine cS λ_ k6=>?_
 refine Qc ?_
 refine XM (A:=qN bm .i64 (yv (λ_=>none) (x.id:Int) (.bool true)) (if((λ_=>none:Int->Option Value) (x.id:Int)).isSome then 0 else 0+1)) (B:=za (.map (some bm)) [(x.id:Int)]) Qm (λh hh=>by rw[tG]at hh;exact hh) ?_
 obtain⟨y,hy⟩:∃y,y=ND.stands {x with g:=ra.2.1}:=⟨_,rfl⟩
 obtain⟨v2,hv2d⟩:∃v2:NV,v2={(v.logd u2 v.va)with vm:=.map (some bm)}:=⟨_,rfl⟩
 have hy1:NIn (k+1) y:=by rw[hy];exact hx1.stands
 have hyv:NOk R5 v2 y:=by rw[hy,hv2d];exact⟨hv1.va,hv1.out,rfl,hv1.vp,hv1.vo,λ_=>⟨bm,rfl⟩⟩
 have hDk:ra.2.2.ok (m+44):=by rw[hra];exact sa hD (by unfold QQ;omega) Om
 have hgy:=hy1.g Om
 refine Pa (La XH) ?_
 refine Pa Qe ?_
 refine Pa (Ga Gp GQ) ?_
 refine Pa (La o3) ?_
 refine Pa QL ?_
 refine Qd ?_
 refine k6 ?_
 refine Qi rfl (λhc42=>?_) (λhc42=>?_)
 .have f1:x.n=1:=by(try simp at hc42);omega
  have hE2:YF (x,D)=qM (y,ra.2.2):=by rw[hE,hy];simp[Xo,QY,he0,f1]
  refine cS λ_ k8=>?_
  refine Qc ?_
  refine XM (A:=QA b.x _ 109) (B:=Xk b v2 y) Qm (λh hh=>by rw[hy,hv2d];exact hh) ?_
  refine XM (A:=Xd b.l _ v.va ra.2.1) (B:=Yo b v2 y) Qm (λh hh=>by rw[hy,hv2d];exact hh) ?_
  refine XM (A:=Xg b.d u2 ra.2.2) (B:=Xg b.d v2.u ra.2.2) Qm (λh hh=>by rw[hv2d];exact hh) ?_
  refine XM (A:=Xf u2 ra.2.2) (B:=Xf v2.u ra.2.2) Qm (λh hh=>by rw[hv2d];exact hh) ?_
  refine XM (A:=Zy v x) (B:=Zy v2 y) Qm (λh hh=>by rw[hy,hv2d];exact hh) ?_
  refine XM (A:=za (.map (some bm)) [(x.id:Int)]) (B:=za v2.vm y.votes) Qm (λh hh=>by rw[hy,hv2d];exact hh) ?_
  refine XM (A:=Yu v x) (B:=Yu v2 y) Qm (λh hh=>by rw[hy,hv2d];exact hh) ?_
  refine Pa (La XH) ?_
  refine XW Qo rfl call92 rfl (AL b v2 y ra.2.2 (k+1) (m+44) Om hy1 hyv hDk Om) Za (λch Rp Lp hRp hpp=>?_) ?_
  . obtain⟨hF,rfl,v3,hv3,rfl⟩:=hpp
    try simp[cB]
    refine hpan _ _ _ _ ?_
    refine Zm _ (XA b v3 (qM (y,ra.2.2)).2.1 (qM (y,ra.2.2)).2.2) (by first|exact Hp.le_refl _|assumption|exact Hp.le_trans ‹_› ‹_›|exact Hp.le_trans hR45 hRp) rfl Qw ?_
    exact⟨by rw[hE2];exact hF,rfl,v3,by rw[hE2];exact hv3,by rw[hE2]⟩
  rintro r R8 L' hR8 ⟨hF,v3,hv3,rfl⟩
  try simp[cB]
  refine Qd ?_
  refine k8 ?_
  refine cE [] ?_
  refine Qg ?_
  refine r_ ?_
  refine Er results72 (XA b v3 (qM (y,ra.2.2)).2.1 (qM (y,ra.2.2)).2.2) (by exact Hp.le_trans hR45 hR8) ?_
  rw[hE2];exact⟨hF,v3,hv3,rfl⟩
 .have f1:¬x.n=1:=by(try simp at hc42);omega
  have hE2:YF (x,D)=(true,(y.askAll,ra.2.2)):=by rw[hE,hy];simp[Xo,QY,he0,f1]
  refine Qh ?_
  refine k5 ?_
  refine cS λ_ k9=>?_
  refine Qc ?_
  refine Pa (La XH) ?_
  refine Pa Qe ?_
  refine Pa (Ga Gp HO) ?_
  refine Pa (La Zz) ?_
  refine Pa (Ca JO (Zq b.l (some ⟨b.d,0,none⟩) v.va ra.2.1 (by rw[hy]at hgy;exact hgy) hv1.va)) ?_
  refine QC Qo rfl IN rfl (λbL=>?_)
  refine Sa QO ?_
  refine Qd ?_
  refine k9 ?_
  refine cE [1,2] ?_
  refine Qc ?_
  refine XM (A:=QA b.x _ 109) (B:=Xk b v2 y) Qm (λh hh=>by rw[hy,hv2d];exact hh) ?_
  refine XM (A:=Xd b.l _ v.va ra.2.1) (B:=Yo b v2 y) Qm (λh hh=>by rw[hy,hv2d];exact hh) ?_
  refine XM (A:=QA bL _ 36) (B:=QA bL [.int .u64 y.g.last] 36) Qm (λh hh=>by rw[hy];exact hh) ?_
  refine XM (A:=Yu v x) (B:=Yu v2 y) Qm (λh hh=>by rw[hy,hv2d];exact hh) ?_
  refine Pa (La XH) ?_
  refine Pa Zo ?_
  refine Ra call69 (AB b v2 y (k+1) Om hy1 hyv bX bL) ?_
  rintro r R8 L' hR8 ⟨vo,css,hels,hvo,rfl⟩
  try simp[cB]
  refine Qd ?_
  refine n_ ?_
  have hye:y.askAll.g=y.g/\y.askAll.role=y.role:=by unfold ND.askAll;rw[yM];exact sb _ _
  apply ay results72 .nil _ (XA b (v2.sent vo css) y.askAll ra.2.2) (Hp.le_trans hR45 hR8) rfl
  case hp=>rw[hE2];exact⟨rfl,_,hyv.sent hR8 hye hels hvo,rfl⟩
  case hS=>unfold ND.askAll;rw[yM,hy,hv2d];(repeat(first|exact zR _|(apply zP;focus(repeat(first|exact zH _|apply zT)))|apply zD|exact zA _ _))
def NIn.pat(h:NIn k x){p:Int}(hp:0<=p/\p<=1000000000000+k):NIn k {x with patience:=p}:=
 ⟨h.idn,h.term,h.vote,h.base,h.baseT,h.state,h.alln,h.all,h.commit,hp,h.peers,h.peer,h.votes,h.out⟩
def NOk.sends{R R':Hp}{v:NV}{x:ND}(h:NOk R v x)(hR:R.le R'){l:List Msg}{vo:Value}{css:List (List Value)}(ho:Els msgE R' (x.sends l).out css)(hvo:vo.oneCell'=true):NOk R' (v.sent vo css) (x.sends l):=h.sent (y:=x.sends l) hR ⟨rfl,rfl⟩ ho hvo
def BG(b:NB)(v:NV)(x:ND)(D:DK)(k m bX:Nat)(hk:k<=40)(hx:NIn k x)(hv:NOk R v x)(hD:D.ok m)(hm:m<=800000000):
   Tri prog 68 [.pointer (some ⟨bX,0,none⟩)] R (QA bX [.pointer (some ⟨b.x,0,none⟩)] 56::XA b v x D) (dy b (tickN (x,D))) (dz b (tickN (x,D))):=by
 have hpt:=hx.patience
 have hx1:NIn (k+1) {x with patience:=x.patience+1}:=(hx.le (show k<=k+1 by omega)).pat Om
 have hx0:NIn k {x with patience:=0}:=hx.pat Om
 have hv1:NOk R v {x with patience:=x.patience+1}:=hv.to (Hp.le_refl _) ⟨rfl,rfl,rfl⟩
 have hv0:NOk R v {x with patience:=0}:=hv.to (Hp.le_refl _) ⟨rfl,rfl,rfl⟩
 refine To func68 ntmps68 λ_ F _ _ n_ hpan=>?_
 try simp[cB]
 refine cS λ_ k1=>?_
 refine Qc ?_
 refine Pa (La XH) ?_
 refine Pa Qe ?_
 refine Pa (Ga Gp GQ) ?_
 refine Pa (La o3) ?_
 refine Pa (Qz) ?_
 refine Pa Qe ?_
 refine Pa (Ga Gp GQ) ?_
 refine Sa o3 ?_
 refine Qd ?_
 refine k1 ?_
 refine Qp ?_
 refine cS λ_ k2=>?_
 refine Qc ?_
 refine Pa (La XH) ?_
 refine Pa Qe ?_
 refine Pa (Ga Gp GQ) ?_
 refine Pa (La o3) ?_
 refine Pa QL ?_
 refine Pm ?_
 refine QM 14 rfl (λhg14=>?_) (λhg14=>?_)
 .have f1:x.role=2:=by simpa using hg14
  have hp:x.peers.length=x.n:=hx.peers f1
  refine Pb (La XH) ?_
  refine Pb Qe ?_
  refine Pb (Ga Gp GQ) ?_
  refine Pb (La o3) ?_
  refine Pb ZP ?_
  refine Pa Qq ?_
  refine Ps ?_
  refine Qd ?_
  refine k2 ?_
  refine cE [0,8] ?_
  refine Qi rfl (λhc8=>?_) (λhc8=>?_)
  .first|(have f2:x.patience+1>=3:=by(try simp at hc8);omega);have hT:tickN (x,D)=(true,(ND.feedAll {x with patience:=0},D)):=by(unfold tickN;rw[an f1,an f2])|skip
   refine cS λ_ k4=>?_
   refine Qc ?_
   refine Pa (La XH) ?_
   refine Pa Qe ?_
   refine Pa (Ga Gp GQ) ?_
   refine Sa o3 ?_
   refine Qd ?_
   refine k4 ?_
   refine Qc ?_
   refine Pa (La XH) ?_
   refine Pa (La XH) ?_
   refine Pa Zo ?_
   refine Ra call69 (mU b v {x with patience:=0} k Om hx0 hv0 hp) ?_
   rintro r R7 L' hR7 ⟨vo,css,hels,hvo,rfl⟩
   rw[Xe]at hels hT|-
   try simp[cB]
   refine Qd ?_
   refine n_ ?_
   apply ay Ke .nil _ (XA b (v.sent vo css) (ND.sends {x with patience:=0} _) D) (by first|exact Hp.le_refl _|assumption) rfl
   case hp=>rw[hT];exact⟨rfl,_,hv0.sends hR7 hels hvo,rfl⟩
   case hS=>exact Qw
  .first|(have f2:¬x.patience+1>=3:=by(try simp at hc8);omega);have hT:tickN (x,D)=(true,({x with patience:=x.patience+1},D)):=by(unfold tickN;rw[an f1,ac f2])|skip
   refine cS λ_ k5=>?_
   refine dW ?_
   refine Qa (La XH) ?_
   refine Qa Qe ?_
   refine Qa (Ga Gp GQ) ?_
   refine Qa (La o3) ?_
   refine Qa Yp ?_
   refine Qa Qf ?_
   refine ZM 34 rfl (λhg34=>?_) (λhg34=>?_)
   .have g1:¬x.role=2:=by simpa using hg34
    refine Qb (La XH) ?_
    refine Qb Qe ?_
    refine Qb (Ga Gp GQ) ?_
    refine Qb (La o3) ?_
    refine Qb (La XH) ?_
    refine Qb (Ca call71 (sB b v {x with patience:=x.patience+1} (k+1) Om hx1)) ?_
    refine Qb ZP ?_
    refine Qa Qq ?_
    refine Qa Xs ?_
    refine Xj ?_
    refine k5 ?_
    refine cE [0,28] ?_
    refine Qi rfl (λhc28=>?_) (λhc28=>?_)
    .first|(have f2:x.patience+1>=YA x.id x.g.term:=by(try simp at hc28);omega);have hT2:tickN (x,D)=YF ({x with patience:=x.patience+1},D):=by(unfold tickN;rw[ac g1,an f2])|skip
     refine Qc ?_
     refine Pa (La XH) ?_
     refine XW Qo rfl call72 rfl (r8 b v {x with patience:=x.patience+1} D (k+1) m Om hx1 hv1 hD hm) Za (λch Rp Lp hRp hpp=>?_) ?_
     . obtain⟨hF,rfl,v3,hv3,rfl⟩:=hpp
       try simp[cB]
       refine hpan _ _ _ _ ?_
       refine Zm _ (XA b v3 (YF ({x with patience:=x.patience+1},D)).2.1 (YF ({x with patience:=x.patience+1},D)).2.2) (by first|exact Hp.le_refl _|assumption|exact Hp.le_trans ‹_› ‹_›) rfl Qw ?_
       exact⟨by rw[hT2];exact hF,rfl,v3,by rw[hT2];exact hv3,by rw[hT2]⟩
     rintro r R8 L' hR8 ⟨hF,v3,hv3,rfl⟩
     try simp[cB]
     refine Qd ?_
     refine n_ ?_
     refine Et Ke (XA b v3 (YF ({x with patience:=x.patience+1},D)).2.1 (YF ({x with patience:=x.patience+1},D)).2.2) (by first|exact Hp.le_refl _|assumption) ?_
     rw[hT2];exact⟨hF,v3,hv3,rfl⟩
    .first|(have f2:¬x.patience+1>=YA x.id x.g.term:=by(try simp at hc28);omega);have hT:tickN (x,D)=(true,({x with patience:=x.patience+1},D)):=by(unfold tickN;rw[ac g1,ac f2])|skip
     refine Qh ?_
     refine n_ ?_
     refine Et Ke (XA b v {x with patience:=x.patience+1} D) (by first|exact Hp.le_refl _|assumption) ?_
     rw[hT];exact⟨rfl,_,hv1,rfl⟩
   .have g1:x.role=2:=by simpa using hg34
    first|(have hT:tickN (x,D)=(true,({x with patience:=x.patience+1},D)):=Gr g1 f1)|skip
    refine Qk ?_
    refine Qk ?_
    refine Qk ?_
    refine Qk ?_
    refine Qk ?_
    refine Qk ?_
    refine Qk ?_
    refine Qa Qn ?_
    refine Qa Xs ?_
    refine Xj ?_
    refine k5 ?_
    refine Qt rfl ?_
    refine Qh ?_
    refine n_ ?_
    refine Et Ke (XA b v {x with patience:=x.patience+1} D) (by first|exact Hp.le_refl _|assumption) ?_
    rw[hT];exact⟨rfl,_,hv1,rfl⟩
 .have f1:¬x.role=2:=by simpa using hg14
  refine Pk ?_
  refine Pk ?_
  refine Pk ?_
  refine Pk ?_
  refine Pk ?_
  refine Pa Qn ?_
  refine Ps ?_
  refine Qd ?_
  refine k2 ?_
  refine Qt rfl ?_
  refine cS λ_ k7=>?_
  refine dW ?_
  refine Qa (La XH) ?_
  refine Qa Qe ?_
  refine Qa (Ga Gp GQ) ?_
  refine Qa (La o3) ?_
  refine Qa Yp ?_
  refine Qa Qf ?_
  refine ZM 34 rfl (λhg34=>?_) (λhg34=>?_)
  .have g1:¬x.role=2:=by simpa using hg34
   refine Qb (La XH) ?_
   refine Qb Qe ?_
   refine Qb (Ga Gp GQ) ?_
   refine Qb (La o3) ?_
   refine Qb (La XH) ?_
   refine Qb (Ca call71 (sB b v {x with patience:=x.patience+1} (k+1) Om hx1)) ?_
   refine Qb ZP ?_
   refine Qa Qq ?_
   refine Qa Xs ?_
   refine Xj ?_
   refine k7 ?_
   refine cE [0,28] ?_
   refine Qi rfl (λhc28=>?_) (λhc28=>?_)
   .first|(have f2:x.patience+1>=YA x.id x.g.term:=by(try simp at hc28);omega);have hT2:tickN (x,D)=YF ({x with patience:=x.patience+1},D):=by(unfold tickN;rw[ac g1,an f2])|skip
    refine Qc ?_
    refine Pa (La XH) ?_
    refine XW Qo rfl call72 rfl (r8 b v {x with patience:=x.patience+1} D (k+1) m Om hx1 hv1 hD hm) Za (λch Rp Lp hRp hpp=>?_) ?_
    . obtain⟨hF,rfl,v3,hv3,rfl⟩:=hpp
      try simp[cB]
      refine hpan _ _ _ _ ?_
      refine Zm _ (XA b v3 (YF ({x with patience:=x.patience+1},D)).2.1 (YF ({x with patience:=x.patience+1},D)).2.2) (by first|exact Hp.le_refl _|assumption|exact Hp.le_trans ‹_› ‹_›) rfl Qw ?_
      exact⟨by rw[hT2];exact hF,rfl,v3,by rw[hT2];exact hv3,by rw[hT2]⟩
    rintro r R8 L' hR8 ⟨hF,v3,hv3,rfl⟩
    try simp[cB]
    refine Qd ?_
    refine n_ ?_
    refine Et Ke (XA b v3 (YF ({x with patience:=x.patience+1},D)).2.1 (YF ({x with patience:=x.patience+1},D)).2.2) (by first|exact Hp.le_refl _|assumption) ?_
    rw[hT2];exact⟨hF,v3,hv3,rfl⟩
   .first|(have f2:¬x.patience+1>=YA x.id x.g.term:=by(try simp at hc28);omega);have hT:tickN (x,D)=(true,({x with patience:=x.patience+1},D)):=by(unfold tickN;rw[ac g1,ac f2])|skip
    refine Qh ?_
    refine n_ ?_
    refine Et Ke (XA b v {x with patience:=x.patience+1} D) (by first|exact Hp.le_refl _|assumption) ?_
    rw[hT];exact⟨rfl,_,hv1,rfl⟩
  .have g1:x.role=2:=by simpa using hg34
   first|(have hT:tickN (x,D)=(true,({x with patience:=x.patience+1},D)):=Gr g1 f1)|skip
   refine Qk ?_
   refine Qk ?_
   refine Qk ?_
   refine Qk ?_
   refine Qk ?_
   refine Qk ?_
   refine Qk ?_
   refine Qa Qn ?_
   refine Qa Xs ?_
   refine Xj ?_
   refine k7 ?_
   refine Qt rfl ?_
   refine Qh ?_
   refine n_ ?_
   refine Et Ke (XA b v {x with patience:=x.patience+1} D) (by first|exact Hp.le_refl _|assumption) ?_
   rw[hT];exact⟨rfl,_,hv1,rfl⟩
structure MIn (k:Nat) (n:Nat) (m:Msg):Prop where
 frm:0<=m.frm/\m.frm<n
 term:0<=m.term/\m.term<=2305843009213693952+k
 index:0<=m.index/\m.index<=100000000000000
 logTerm:0<=m.logTerm/\m.logTerm<=2305843009213693952+k
 commit:0<=m.commit/\m.commit<18446744073709551616
 es:m.es.length<=20/\∀e∈m.es,(0<=e.1/\e.1<=2305843009213693952+k)/\e.2.length<=100
 state:m.state.length<=1000000
def MIn.le(h:MIn k n m)(hk:k<=j):MIn j n m:=
 ⟨h.frm,⟨h.term.1,by have:=h.term.2;omega⟩,h.index,⟨h.logTerm.1,by have:=h.logTerm.2;omega⟩,h.commit,⟨h.es.1,λe he=>⟨⟨(h.es.2 e he).1.1,by have:=(h.es.2 e he).1.2;omega⟩,(h.es.2 e he).2⟩⟩,h.state⟩
def Da(b:NB)(v:NV)(x:ND)(D:DK)(m:Msg)(ve:Value)(k n:Nat)(hk:k<=50)(hx:NIn k x)(hv:NOk R v x)(hm:MIn k x.n m)(hve:FrX entE R m.es ve)(hD:D.ok n)(hn:n<=800000000):
   Tri prog 76 [.pointer (some ⟨b.x,0,none⟩),.agg ⟨Xl m ve⟩] R (XA b v x D) (dy b (ZY (x,D) m)) (dz b (ZY (x,D) m)):=by
 have hg:=hx.g Om
 have hva:=hv.va
 have hlb:=LG.last_b hg
 have hidn:=hx.idn
 have hterm:=hx.term
 have hob:=hx.out
 have hfrm:=hm.frm
 obtain⟨ra,hra⟩:∃r,r=x.g.setTermD D x.g.term m.frm:=⟨_,rfl⟩
 have hveo:=hve.one
 refine To func76 ntmps76 λσ F _ _ n_ hpan=>?_
 try simp[cB]
 refine cS λ_ k1=>?_
 refine Qc ?_
 refine Xc Qo rfl rfl rfl (λb3=>?_)
 refine Qd ?_
 refine k1 ?_
 refine cS λ_ k2=>?_
 refine Qc ?_
 refine Pm ?_
 refine Pa Qe ?_
 refine Pa (Ga Gp HO) ?_
 refine Pa (La Zz) ?_
 refine Pa (Ca JO (Zq b.l (some ⟨b.d,0,none⟩) v.va x.g hg hva)) ?_
 refine Ps ?_
 refine Qd ?_
 refine k2 ?_
 refine cS λ_ k3=>?_
 refine Qc ?_
 refine Pm ?_
 refine Pm ?_
 refine Pa (Ca call91 (aP b v x hg hva x.g.last (by unfold QQ;omega))) ?_
 refine Ps ?_
 refine Qd ?_
 refine k3 ?_
 refine XN λK4 hK4=>?_
 have hJ4:∀(gd:Bool),gd=x.good m->EJ ⟨prog,94,σ⟩ K4 [(0,.pointer (some ⟨b.x,0,none⟩)),(3,.pointer (some ⟨b3,0,none⟩)),(6,.bool gd)] R (QA b3 (Xl m ve) 117::Xk b v x::Yo b v x::Xg b.d v.u D::Xf v.u D::Zy v x::za v.vm x.votes::Yu v x::F):=by
  rintro gd hgd
  try dsimp only
  refine hK4 _ _ _ ?_
  refine XN λK5 hK5=>?_
  have hJ5:∀(fr:Bool),fr=(decide (x.g.vote= -1)||decide (x.g.vote=m.frm))->EJ ⟨prog,94,σ⟩ K5 [(0,.pointer (some ⟨b.x,0,none⟩)),(3,.pointer (some ⟨b3,0,none⟩)),(6,.bool gd),(7,.bool fr)] R (QA b3 (Xl m ve) 117::Xk b v x::Yo b v x::Xg b.d v.u D::Xf v.u D::Zy v x::za v.vm x.votes::Yu v x::F):=by
   rintro fr hfr
   try dsimp only
   refine hK5 _ _ _ ?_
   refine XN λK6 hK6=>?_
   have hJ6:∀(gr:Bool),gr=x.grants m->EJ ⟨prog,94,σ⟩ K6 [(0,.pointer (some ⟨b.x,0,none⟩)),(3,.pointer (some ⟨b3,0,none⟩)),(8,.bool gr)] R (QA b3 (Xl m ve) 117::Xk b v x::Yo b v x::Xg b.d v.u D::Xf v.u D::Zy v x::za v.vm x.votes::Yu v x::F):=by
    rintro gr hgr
    try dsimp only
    refine hK6 _ _ _ ?_
    refine XN λK7 hK7=>?_
    have hJ9:∀(x9:ND×NV×DK×Hp),NIn (k+1) x9.1/\NOk x9.2.2.2 x9.2.1 x9.1/\R.le x9.2.2.2/\ZY (x,D) m=(true,(x9.1.send (ND.voteMsg m gr),x9.2.2.1))->EJ ⟨prog,94,σ⟩ K7 [(0,.pointer (some ⟨b.x,0,none⟩)),(3,.pointer (some ⟨b3,0,none⟩)),(8,.bool gr)] x9.2.2.2 (QA b3 (Xl m ve) 117::Xk b x9.2.1 x9.1::Yo b x9.2.1 x9.1::Xg b.d x9.2.1.u x9.2.2.1::Xf x9.2.1.u x9.2.2.1::Zy x9.2.1 x9.1::za x9.2.1.vm x9.1.votes::Yu x9.2.1 x9.1::F):=by
     rintro⟨y,v2,D2,R2⟩ ⟨hy,hv2,hR2,hF⟩
     try dsimp only
     dsimp only at hy hv2 hR2 hF
     have hyo:=hy.out
     refine hK7 _ _ _ ?_
     refine Qc ?_
     refine Pm ?_
     refine Pa (Ga GF GQ) ?_
     refine Pa (La o3) ?_
     refine Pm ?_
     refine Pa (Xh (cells:=[_,_,_,_,_,_,_,_,_,_]) [(0,1),(1,1),(2,1),(3,1),(4,1),(5,1),(6,1),(7,1),(8,1),(9,1)] GF Ia (λ_=>rfl)) ?_
     refine Ra MR (fQ b v2 y (ND.voteMsg m gr) (.slice none 0 0) hv2.out hv2.vo Om FrX.nil) ?_
     rintro r R6 L' hR6 ⟨vo,css,hels,hvo2,rfl⟩
     try simp[cB]
     refine Qd ?_
     refine n_ ?_
     refine Et results76 (XA b (v2.sent vo css) (y.send (ND.voteMsg m gr)) D2) (Hp.le_trans hR2 hR6) ?_
     rw[hF];exact⟨rfl,_,hv2.sent (y:=y.send (ND.voteMsg m gr)) hR6 ⟨rfl,rfl⟩ hels hvo2,rfl⟩
    refine cS λ_ k8=>?_
    refine Qc ?_
    refine Pm ?_
    refine Qd ?_
    refine k8 ?_
    refine Qi rfl (λhc70=>?_) (λhc70=>?_)
    .have g1:gr=true:=hc70
     refine cS λ_ k10=>?_
     refine mG (L:=[Xk b v x,QA b3 (Xl m ve) 117]) [0,1,2,3,4,5,6,7,8,10,11] [9,12] [13] ?_
     refine Wc rfl Qf ?_
     refine Wc rfl Qf ?_
     refine Wc rfl Qe ?_
     refine Wc rfl (Ga Gp HO) ?_
     refine Wc rfl (La Zz) ?_
     refine Wc rfl Qf ?_
     refine Wc rfl Qe ?_
     refine Wc rfl (Ga Gp HO) ?_
     refine Wc rfl (La Zz) ?_
     refine Wc rfl (Ga GF GQ) ?_
     refine Wc rfl (La o3) ?_
     refine Xq ?_
     refine QT rfl ?_
     try simp[cC]
     refine Pa (Ca Jz (ZN b.l (some ⟨b.d,0,none⟩) v.va x.g)) ?_
     refine QU QB Qw ?_
     refine QT rfl ?_
     try simp[cC]
     refine Ra call75 (dm b.l b.d v.va v.u x.g D n x.g.term m.frm hg (by unfold QQ;omega) Om Om hva.one hD Om) ?_
     rintro r R4 L' hR4 ⟨rfl,u2,rfl⟩
     rw[<-hra]
     have hall:ra.2.1.all=x.g.all:=by rw[hra];exact iE
     have hAs:ZY (x,D) m=Xo (QY (x,D) ra) λs=>(true,({s.1 with patience:=0}.send (ND.voteMsg m true),s.2)):=by unfold ZY;rw[an (by rw[<-hgr];exact g1),hra]
     try simp[cB]
     refine QU QB Qw ?_
     refine Xt ?_
     try simp[cC]
     refine XW Qo rfl LE rfl (bY b (v.logd u2 v.va) x _) Za (λch Rp Lp hRp hpp=>?_) ?_
     . obtain⟨he1,rfl,rfl⟩:=hpp
       try simp[cB]
       refine hpan _ _ _ _ ?_
       refine Zm _ (XA b (v.logd u2 v.va) {x with g:=ra.2.1,down:=true} ra.2.2) (by first|exact Hp.le_refl _|assumption|exact Hp.le_trans ‹_› ‹_›|exact Hp.le_trans hR4 hRp) rfl Qw ?_
       exact⟨by rw[hAs];simp[Xo,QY,he1],rfl,v.logd u2 v.va,by rw[hAs];simp[Xo,QY,ac he1];exact hv.logd (y:={x with g:=ra.2.1,down:=true}) (Hp.le_trans hR4 hRp) ⟨rfl,rfl⟩ (by show FrX entE Rp ra.2.1.all v.va;rw[hall];exact hva.mono (Hp.le_trans hR4 hRp)),by rw[hAs];simp[Xo,QY,he1]⟩
     rintro r R5 L' hR5 ⟨he0,rfl⟩
     have hx1:NIn (k+1) {x with g:=ra.2.1,patience:=0}:=by rw[hra,lq (by rw[<-hra];exact he0)];exact(hx.set (t:=x.g.term) (vt:=m.frm) Om Om).pat (p:=0) Om
     have hR45:=Hp.le_trans hR4 hR5
     have hv1:NOk R5 (v.logd u2 v.va) {x with g:=ra.2.1,patience:=0}:=hv.logd (y:={x with g:=ra.2.1,patience:=0}) hR45 ⟨rfl,rfl⟩ (by show FrX entE R5 ra.2.1.all v.va;rw[hall];exact hva.mono hR45)
     try simp[cB]
     refine Qd ?_
     refine k10 ?_
     refine cE [0,3,8] ?_
     refine Qc ?_
     refine Pm ?_
     refine Pa Qe ?_
     refine Pa (Ga Gp GQ) ?_
     refine Sa o3 ?_
     refine Qd ?_
     refine Jn hJ9 (({x with g:=ra.2.1,patience:=0},v.logd u2 v.va,ra.2.2,R5)) (⟨hx1,hv1,hR45,by rw[hAs,g1];simp[Xo,QY,he0]⟩)
    .have g1:gr=false:=by simpa using hc70
     refine Qh ?_
     refine Jn hJ9 ((x,v,D,R)) (⟨hx.le Om,hv,Hp.le_refl _,by unfold ZY;rw[ac (by rw[<-hgr,g1];simp),g1]⟩)
   refine dW ?_
   refine Qa (Ga GF Gw) ?_
   refine Qa (La QO) ?_
   refine Qa Qf ?_
   refine Qa Qe ?_
   refine Qa (Ga Gp HO) ?_
   refine Qa (La Zz) ?_
   refine Qa (Ca Jz (ZN b.l (some ⟨b.d,0,none⟩) v.va x.g)) ?_
   refine Qa QL ?_
   refine Qa Qf ?_
   refine ZM 57 rfl (λhg57=>?_) (λhg57=>?_)
   .have f6:m.term=x.g.term:=by simpa using hg57
    refine Qb Qf ?_
    refine Qb Qe ?_
    refine Qb (Ga Gp GQ) ?_
    refine Qb (La o3) ?_
    refine Qb QL ?_
    refine Qa Qq ?_
    refine Qa Qf ?_
    refine ZM 64 rfl (λhg64=>?_) (λhg64=>?_)
    .first|(have f7:x.role=0:=by simpa using hg64)|skip
     refine Qb Qf ?_
     refine Qa Qq ?_
     refine Qa Qf ?_
     refine ZM 67 rfl (λhg67=>?_) (λhg67=>?_)
     .first|(have f8:fr=true:=by simpa using hg67)|skip
      refine Qb Qf ?_
      refine Qa Qq ?_
      refine Qa Xs ?_
      refine Xj ?_
      refine qP hJ6 (_) (by unfold ND.grants;rw[<-hgd,<-hfr];first|(simp[f6,f7,f8];done)|(simp[f6,f7];done)|(simp[f6];done)) (eC rfl (eC rfl (eC rfl eN))) rfl Qw
     .first|(have f8:fr=false:=by simpa using hg67)|skip
      refine Qk ?_
      refine Qa Qn ?_
      refine Qa Xs ?_
      refine Xj ?_
      refine qP hJ6 (_) (by unfold ND.grants;rw[<-hgd,<-hfr];first|(simp[f6,f7,f8];done)|(simp[f6,f7];done)|(simp[f6];done)) (eC rfl (eC rfl (eC rfl eN))) rfl Qw
    .first|(have f7:¬x.role=0:=by simpa using hg64)|skip
     refine Qk ?_
     refine Qa Qn ?_
     refine Qa Qf ?_
     refine Qk ?_
     refine Qa Qn ?_
     refine Qa Xs ?_
     refine Xj ?_
     refine qP hJ6 (_) (by unfold ND.grants;rw[<-hgd,<-hfr];first|(simp[f6,f7,f8];done)|(simp[f6,f7];done)|(simp[f6];done)) (eC rfl (eC rfl (eC rfl eN))) rfl Qw
   .have f6:¬m.term=x.g.term:=by simpa using hg57
    refine Qk ?_
    refine Qk ?_
    refine Qk ?_
    refine Qk ?_
    refine Qk ?_
    refine Qa Qn ?_
    refine Qa Qf ?_
    refine Qk ?_
    refine Qa Qn ?_
    refine Qa Qf ?_
    refine Qk ?_
    refine Qa Qn ?_
    refine Qa Xs ?_
    refine Xj ?_
    refine qP hJ6 (_) (by unfold ND.grants;rw[<-hgd,<-hfr];first|(simp[f6,f7,f8];done)|(simp[f6,f7];done)|(simp[f6];done)) (eC rfl (eC rfl (eC rfl eN))) rfl Qw
  refine dW ?_
  refine Qa Qf ?_
  refine Qa Qe ?_
  refine Qa (Ga Gp HO) ?_
  refine Qa (La Zz) ?_
  refine Qa (Ca call96 (pe b.l (some ⟨b.d,0,none⟩) v.va x.g)) ?_
  refine Qa QL ?_
  refine Qa Qf ?_
  refine ZM 39 rfl (λhg39=>?_) (λhg39=>?_)
  .have f5:x.g.vote= -1:=by simpa using hg39
   refine Qk ?_
   refine Qk ?_
   refine Qk ?_
   refine Qk ?_
   refine Qk ?_
   refine Qk ?_
   refine Qk ?_
   refine Qk ?_
   refine Qa Qq ?_
   refine Qa Xs ?_
   refine Xj ?_
   refine qP hJ5 (_) (by simp[f5]) (eC rfl (eC rfl (eC rfl (eC rfl eN)))) rfl Qw
  .have f5:¬x.g.vote= -1:=by simpa using hg39
   refine Qb Qf ?_
   refine Qb Qe ?_
   refine Qb (Ga Gp HO) ?_
   refine Qb (La Zz) ?_
   refine Qb (Ca call96 (pe b.l (some ⟨b.d,0,none⟩) v.va x.g)) ?_
   refine Qb (Ga GF GQ) ?_
   refine Qb (La o3) ?_
   refine Qb QL ?_
   refine Qa Qn ?_
   refine Qa Xs ?_
   refine Xj ?_
   refine qP hJ5 (_) (by simp[f5]) (eC rfl (eC rfl (eC rfl (eC rfl eN)))) rfl Qw
 refine Qc ?_
 refine Pa (Ga GF Gw) ?_
 refine Pa (La QO) ?_
 refine Pm ?_
 refine Pa XG ?_
 refine Pm ?_
 refine QM 21 rfl (λhg21=>?_) (λhg21=>?_)
 .have f3:x.tAt x.g.last<m.logTerm:=by simpa using hg21
  refine Pk ?_
  refine Pk ?_
  refine Pk ?_
  refine Pk ?_
  refine Pk ?_
  refine Xp Zx rfl rfl ?_
  refine Xp Zx rfl rfl ?_
  refine Xp Zx rfl rfl ?_
  refine Xp Zx rfl rfl ?_
  refine Pk ?_
  refine Pa Qq ?_
  refine Ps ?_
  refine Qd ?_
  refine qP hJ4 (_) (by unfold ND.good;first|(simp[f3,f4];done)|(simp[f3];done)|(rw[f4]at f3|-;simp)) (eC rfl (eC rfl (eC rfl eN))) rfl Qw
 .have f3:¬x.tAt x.g.last<m.logTerm:=by simpa using hg21
  refine Pb (Ga GF Gw) ?_
  refine Pb (La QO) ?_
  refine Pb Qf ?_
  refine Pb QL ?_
  refine Pb Qf ?_
  refine QM 26 rfl (λhg26=>?_) (λhg26=>?_)
  .have f4:m.logTerm=x.tAt x.g.last:=by simpa using hg26
   refine Pb (Ga GF Gw) ?_
   refine Pb (La QO) ?_
   refine Pb Qf ?_
   refine Pb ZP ?_
   refine Pb Qq ?_
   refine Pa Qn ?_
   refine Ps ?_
   refine Qd ?_
   refine qP hJ4 (_) (by unfold ND.good;first|(simp[f3,f4];done)|(simp[f3];done)|(rw[f4]at f3|-;simp)) (eC rfl (eC rfl (eC rfl eN))) rfl Qw
  .have f4:¬m.logTerm=x.tAt x.g.last:=by simpa using hg26
   refine Pk ?_
   refine Pk ?_
   refine Pk ?_
   refine Pk ?_
   refine Pb Qn ?_
   refine Pa Qn ?_
   refine Ps ?_
   refine Qd ?_
   refine qP hJ4 (_) (by unfold ND.good;first|(simp[f3,f4];done)|(simp[f3];done)|(rw[f4]at f3|-;simp)) (eC rfl (eC rfl (eC rfl eN))) rfl Qw
theorem oR:∀(n:Nat) (l:List Int),l.Nodup->(∀i∈l,0<=i/\i<(n:Int))->l.length<=n
 |0,l,_,h=>by
  cases l with
  |nil=>simp
  |cons a l=>have:=h a Si;omega
 |n+1,l,hd,h=>by
  have h1:=oR n (l.erase (n:Int)) (hd.erase _) (λi hi=>by
   rw[hd.mem_erase_iff]at hi
   have:=h i hi.2
   have:=hi.1
   omega)
  have h2:=List.length_erase (l:=l) (a:=(n:Int))
  rw[h2]at h1
  split at h1<;>omega
theorem mo(hd:l.Nodup)(i:Int):(QS l i).Nodup:=by
 unfold QS
 split
 ·exact hd
 ·rename_i h
  rw[List.nodup_append]
  exact⟨hd,by simp,λa ha b hb=>by simp at hb;subst hb;intro e;subst e;exact h ha⟩
theorem eE{i j:Int}(h:j∈QS l i):j∈l\/j=i:=by
 unfold QS at h
 split at h
 ·exact .inl h
 ·simpa using h
theorem tH(l:List Int)(i:Int):yv (yV l) i (.bool true)=yV (QS l i):=by
 funext k
 unfold yv yV QS
 by_cases hi:i∈l
 ·rw[if_pos hi]
  by_cases hk:k=i
  ·subst hk;simp[hi]
  ·simp[hk]
 ·rw[if_neg hi]
  by_cases hk:k=i
  ·subst hk;simp
  ·simp[hk]
theorem tU(l:List Int)(i:Int):(if(yV l i).isSome then l.length else l.length+1)=(QS l i).length:=by
 unfold yV QS
 by_cases hi:i∈l<;>simp[hi]
theorem NIn.vote1(h:NIn k x){i:Int}(hi:0<=i/\i<(x.n:Int)):NIn k {x with votes:=QS x.votes i}:=
 ⟨h.idn,h.term,h.vote,h.base,h.baseT,h.state,h.alln,h.all,h.commit,h.patience,h.peers,h.peer,⟨mo h.votes.1 i,λj hj=>by
  rcases eE hj with hj|hj
  ·exact h.votes.2 j hj
  ·subst hj;exact hi⟩,h.out⟩
theorem pX{x:Code}{A B:Qj}(f:Find A L M)(hA:∀h,A h->B h)(h:CJ c x Q E R (B::M)):CJ c x Q E R L:=λa w hf hs=>h a w hf ((hs.find f).turn hA)
theorem Bw(b:NB)(v:NV)(x:ND)(D:DK)(m:Msg)(ve:Value)(k n:Nat)(hk:k<=50)(hx:NIn k x)(hv:NOk R v x)(hm:MIn k x.n m)(hve:FrX entE R m.es ve)(hD:D.ok n)(hn:n<=800000000):
   Tri prog 77 [.pointer (some ⟨b.x,0,none⟩),.agg ⟨Xl m ve⟩] R (XA b v x D) (dy b (YE (x,D) m)) (dz b (YE (x,D) m)):=by
 have hidn:=hx.idn
 have hfrm:=hm.frm
 have hveo:=hve.one
 have hy:=hx.vote1 hfrm
 have hyl:=oR x.n _ hy.votes.1 hy.votes.2
 replace hyl:(QS x.votes m.frm).length<=x.n:=hyl
 refine To func77 ntmps77 λ_ F _ r_ n_ hpan=>?_
 try simp only[cB]
 refine cS λ_ k1=>Qc (Xc (Qo rfl) rfl rfl rfl (λb3=>Qd (k1 (cS λ_ k2=>cS λ_ k3=>dW (Qa (Qf rfl) (Qa (Qe rfl) ?_))))))
 refine Qa (Ga underlying109 sizeOf3) ?_
 refine Qa (La o3) (Qa (Yp rfl rfl) (Qa (Qf rfl) (ZM 9 rfl (λhg9=>?_) (λhg9=>?_))))
 ·have f0:¬x.role=1\/¬m.term=x.g.term\/m.ok=false:=.inl (by simpa using hg9)
  refine Qk ?_
  refine Qk ?_
  refine Qk ?_
  refine Qk ?_
  refine Qk ?_
  refine Qk ?_
  refine Qk ?_
  refine Qk (Qa (Qq rfl rfl) (Qa (Qf rfl) ?_))
  refine Qk ?_
  refine Qk ?_
  refine Qk (Qa (Qq rfl rfl) (Xj (k3 ?_)))
  refine cE [0,3,23] (QD rfl (Qg (r_ ?_)))
  refine Er results77 (XA b v x D) (by first|exact Hp.le_refl _|assumption) ?_
  rw[show YE (x,D) m=(true,(x,D))by unfold YE;rw[if_pos f0]];exact⟨rfl,v,hv,rfl⟩
 ·have f1:x.role=1:=by simpa using hg9
  refine Qb (Ga underlying117 sizeOf36) ?_
  refine Qb (La QO) ?_
  refine Qb (Qf rfl) ?_
  refine Qb (Qe rfl) ?_
  refine Qb (Ga underlying109 sizeOf55) ?_
  refine Qb (La Zz) ?_
  refine Qb (Ca call24 (ZN b.l (some ⟨b.d,0,none⟩) v.va x.g)) ?_
  refine Qb (Yp rfl rfl) (Qa (Qn rfl rfl) (Qa (Qf rfl) (ZM 19 rfl (λhg19=>?_) (λhg19=>?_))))
  ·first|(have f0:¬x.role=1\/¬m.term=x.g.term\/m.ok=false:=.inr (.inl (by simpa using hg19)))|skip
   refine Qk ?_
   refine Qk ?_
   refine Qk ?_
   refine Qa (Qq rfl rfl) (Xj (k3 (QD rfl (Qg (r_ (Er results77 (XA b v x D) (by first|exact Hp.le_refl _|assumption) ?_))))))
   rw[show YE (x,D) m=(true,(x,D))by unfold YE;rw[if_pos f0]];exact⟨rfl,v,hv,rfl⟩
  ·first|(have f2:m.term=x.g.term:=by simpa using hg19)|skip
   refine Qb (Ga underlying117 sizeOf4) ?_
   refine Qb (La o4) ?_
   refine Qb (Xa rfl) (Qa (Qn rfl rfl) (Xj (k3 ?_)))
   refine cE [0,3,23] ?_
   refine Qi rfl (λhc23=>?_) (λhc23=>?_)
   ·first|(have f0:¬x.role=1\/¬m.term=x.g.term\/m.ok=false:=.inr (.inr (by simpa using hc23)))|skip
    refine Qg (r_ (Er results77 (XA b v x D) (by first|exact Hp.le_refl _|assumption) ?_))
    rw[show YE (x,D) m=(true,(x,D))by unfold YE;rw[if_pos f0]];exact⟨rfl,v,hv,rfl⟩
   ·have f3:m.ok=true:=by simpa using hc23
    have f0:¬(¬x.role=1\/¬m.term=x.g.term\/m.ok=false):=by simp[f1,f2,f3]
    obtain⟨mm,hmm⟩:=hv.map f1
    refine Qh (k2 (cS λ_ k5=>mG (L:=[Xk b v x,QA b3 (Xl m ve) 117]) [0,1,2,3,4,5] [] [6] ?_))
    refine Wc rfl (Qf rfl) ?_
    refine Wc rfl (Qe rfl) ?_
    refine Wc rfl (Ga underlying109 sizeOf39) ?_
    refine Wc rfl (Yld.to (u:=.map (some mm)) (La Eg) hmm) ?_
    refine Wc rfl (Ga underlying117 sizeOf3) ?_
    refine Wc rfl (La o3) (Xq (Xt ?_))
    try simp only[cC]
    refine XM (A:=za v.vm x.votes) (B:=qN mm .i64 (yV x.votes) x.votes.length) Qm (λh hh=>by rw[hmm]at hh;exact hh) (jt underlying39 underlying3 (Qo rfl) rfl rfl rfl Qm ?_)
    rw[tH,tU]
    refine Qd (k5 (cS λ_ k6=>dW (Qa (Qf rfl) (Qa (Qe rfl) ?_))))
    refine Qa (Ga underlying109 sizeOf39) ?_
    refine Qa ((Yld.to (u:=.map (some mm)) (La Eg) hmm)) (Qa (uT underlying39 rfl Qm) ?_)
    refine Qa ((dA rfl rfl Om)) ?_
    refine Qa (Qf rfl) (Qa (Qe rfl) ?_)
    refine Qa (Ga underlying109 sizeOf3) ?_
    refine Qa (La o3) (Qa (XG rfl rfl) (Xj (k6 (Qi rfl (λhc40=>?_) (λhc40=>?_)))))
    ·have f4:2*((QS x.votes m.frm).length:Int)>x.n:=by(try simp at hc40);omega
     have hE:YE (x,D) m=qM ({x with votes:=QS x.votes m.frm},D):=by unfold YE;rw[if_neg f0,if_pos f4]
     refine pX (A:=qN mm .i64 (yV (QS x.votes m.frm)) (QS x.votes m.frm).length) (B:=za v.vm (QS x.votes m.frm)) Qm (λh hh=>by rw[hmm];exact hh) (Qc (Pm (XW (Qo rfl) rfl call92 rfl (AL b v {x with votes:=QS x.votes m.frm} D k n Om hy (hv.to (Hp.le_refl _) ⟨rfl,rfl,rfl⟩) hD Om) Za (λch Rp Lp hRp hpp=>?_) ?_)))
     · obtain⟨hF,rfl,v3,hv3,rfl⟩:=hpp
       try simp only[cB]
       exact hpan _ _ _ _ (Zm _ (XA b v3 (qM ({x with votes:=QS x.votes m.frm},D)).2.1 (qM ({x with votes:=QS x.votes m.frm},D)).2.2) (by first|exact Hp.le_refl _|assumption|exact Hp.le_trans ‹_› ‹_›) rfl Qw ⟨by rw[hE];exact hF,rfl,v3,by rw[hE];exact hv3,by rw[hE]⟩)
     rintro r R8 L' hR8 ⟨hF,v3,hv3,rfl⟩
     try simp only[cB]
     refine Qd (n_ (Et results77 (XA b v3 (qM ({x with votes:=QS x.votes m.frm},D)).2.1 (qM ({x with votes:=QS x.votes m.frm},D)).2.2) (by first|exact Hp.le_refl _|assumption) ?_))
     rw[hE];exact⟨hF,v3,hv3,rfl⟩
    ·have f4:¬2*((QS x.votes m.frm).length:Int)>x.n:=by(try simp at hc40);omega
     have hE:YE (x,D) m=(true,({x with votes:=QS x.votes m.frm},D)):=by unfold YE;rw[if_neg f0,if_neg f4]
     refine pX (A:=qN mm .i64 (yV (QS x.votes m.frm)) (QS x.votes m.frm).length) (B:=za v.vm (QS x.votes m.frm)) Qm (λh hh=>by rw[hmm];exact hh) (Qh (n_ (Et results77 (XA b v {x with votes:=QS x.votes m.frm} D) (by first|exact Hp.le_refl _|assumption) ?_)))
     rw[hE];exact⟨rfl,v,hv.to (Hp.le_refl _) ⟨rfl,rfl,rfl⟩,rfl⟩
theorem NIn.setPeer(h:NIn k x)(to:Nat){p:Int×Int}(hp:(1<=p.1/\p.1<=200000000000000)/\(0<=p.2/\p.2<=150000000000000)):NIn k (x.setPeer to p):=
 ⟨h.idn,h.term,h.vote,h.base,h.baseT,h.state,h.alln,h.all,h.commit,h.patience,λhr=>by show(x.peers.set to p).length=_;rw[List.length_set];exact h.peers hr,λq hq=>by
  rcases List.mem_or_eq_of_mem_set hq with hq|hq
  ·exact h.peer q hq
  ·subst hq;exact hp,h.votes,h.out⟩
theorem tS{e:TypeId}{sz:Nat}{xs:List Value}(hn:0<n)(h:Hp)(hs:QN e sz v n xs h):∃(g o cap:Nat),v=.slice (some ⟨g,o,none⟩) n cap/\n<=cap:=by
 obtain⟨_,⟨_,h0⟩|⟨g,cap,fz,pre,post,hv,_,_,hc,_⟩⟩:=hs
 ·omega
 ·exact⟨g,pre.length,cap,hv,hc⟩
theorem D7(hx:NIn k x)(hi:i<x.peers.length):(1<=x.nxt i/\x.nxt i<=200000000000000)/\(0<=x.mat i/\x.mat i<=150000000000000):=by
 have:x.peers.getD i (0,0)∈x.peers:=by rw[List.getD_eq_getElem?_getD,List.getElem?_eq_getElem hi];simp
 exact hx.peer _ this
theorem fP{l:List (Int×Int)}(h:i<l.length)(p:Int×Int):(l.set i p).getD i (0,0)=p:=by
 simp[List.getD_eq_getElem?_getD,h]
theorem zh(g o n k j:Nat):qj (.slice (some ⟨g,o,none⟩) n k) j=.pointer (some ⟨g,o+j,none⟩):=by simp[qj,YH]
theorem sJ(b:NB)(v:NV)(x:ND)(D:DK)(m:Msg)(ve:Value)(k:Nat)(hk:k<=50)(hx:NIn k x)(hv:NOk R v x)(hm:MIn k x.n m)(hve:FrX entE R m.es ve):
  Tri prog 79 [.pointer (some ⟨b.x,0,none⟩),.agg ⟨Xl m ve⟩] R (XA b v x D) (dy b (Ya (x,D) m)) (dz b (Ya (x,D) m)):=by
 have hidn:=hx.idn
 have hfrm:=hm.frm
 have hveo:=hve.one
 have hidx:=hm.index
 have hg:=hx.g Om
 have hlb:=LG.last_b hg
 obtain⟨to,hto⟩:∃to,to=m.frm.toNat:=⟨_,rfl⟩
 have hfto:m.frm=(to:Int):=by omega
 obtain⟨k1,hk1⟩:∃k1,k1=max (x.mat to) (min m.index x.g.last):=⟨_,rfl⟩
 have hN:Ya (x,D) m=if¬x.role=2\/¬m.term=x.g.term then(true,(x,D))else if m.ok=false then(true,((x.setPeer to (max (min (x.nxt to-1) (m.index+1)) (x.mat to+1),x.mat to)).feed to,D))else if k1+1<=(x.setPeer to (k1+1,k1)).count.g.last then(true,((x.setPeer to (k1+1,k1)).count.feed to,D))else(true,((x.setPeer to (k1+1,k1)).count,D)):=by rw[hk1,hto];rfl
 refine To func79 ntmps79 λ_ F _ r_ n_ _=>?_
 try simp only[cB]
 refine XN λK1 hK1=>Qc ?_
 refine Xc (Qo rfl) rfl rfl rfl (λb3=>?_)
 refine Qd (hK1 _ _ _ (cS λ_ k2=>cS λ_ k3=>?_))
 refine dW ?_
 refine Qa (Qf rfl) ?_
 refine Qa (Qe rfl) ?_
 refine Qa (Ga underlying109 sizeOf3) ?_
 refine Qa (La o3) ?_
 refine Qa (Yp rfl rfl) ?_
 refine Qa (Qf rfl) ?_
 refine ZM 10 rfl (λhg10=>?_) (λhg10=>?_)
 have f0:¬x.role=2\/¬m.term=x.g.term:=.inl (by simpa using hg10)
 refine Qk ?_
 refine Qk ?_
 refine Qk ?_
 refine Qk ?_
 refine Qk ?_
 refine Qk ?_
 refine Qk ?_
 refine Qk ?_
 refine Qa (Qq rfl rfl) ?_
 refine Xj ?_
 refine k3 (QD rfl (Qg (r_ ?_)))
 refine Er results79 (XA b v x D) (by first|exact Hp.le_refl _|assumption) ?_
 rw[hN,if_pos f0];exact⟨rfl,v,hv,rfl⟩
 have f1:x.role=2:=by simpa using hg10
 refine Qb (Ga underlying117 sizeOf36) ?_
 refine Qb (La QO) ?_
 refine Qb (Qf rfl) ?_
 refine Qb (Qe rfl) ?_
 refine Qb (Ga underlying109 sizeOf55) ?_
 refine Qb (La Zz) ?_
 refine Qb (Ca call24 (ZN b.l (some ⟨b.d,0,none⟩) v.va x.g)) ?_
 refine Qb (Yp rfl rfl) ?_
 refine Qa (Qn rfl rfl) ?_
 refine Xj ?_
 refine k3 ?_
 refine cE [0,3,19] ?_
 refine Qi rfl (λhc19=>?_) (λhc19=>?_)
 first|(have f0:¬x.role=2\/¬m.term=x.g.term:=.inr (by simpa using hc19))|skip
 refine Qg (r_ ?_)
 refine Er results79 (XA b v x D) (by first|exact Hp.le_refl _|assumption) ?_
 rw[hN,if_pos f0];exact⟨rfl,v,hv,rfl⟩
 have f2:m.term=x.g.term:=by simpa using hc19
 have f0:¬(¬x.role=2\/¬m.term=x.g.term):=by simp[f1,f2]
 have hpl:=hx.peers f1
 have htl:to<x.peers.length:=by omega
 obtain⟨hp1,hp2⟩:=D7 hx htl
 have hn0:ZO (XT x.peers) (m.frm.toNat*2+0)=some (.int .u64 (x.nxt to)):=(jP x.peers to m.frm hfto htl).1
 have hn1:ZO (XT x.peers) (m.frm.toNat*2+1)=some (.int .u64 (x.mat to)):=(jP x.peers to m.frm hfto htl).2
 refine qh (A:=Zy v x) Qm (λh hh=>tS (show 0<x.peers.length by omega) h hh) (λhsh=>?_)
 obtain⟨gp,op,cp,hvp,hcp⟩:=hsh
 rw[if_neg f0]at hN
 refine Qh (k2 (cS λ_ k5=>?_))
 refine dW ?_
 refine Qa (Qf rfl) ?_
 refine Qa (Qe rfl) ?_
 refine Qa (Ga underlying109 sizeOf107) ?_
 refine Qa ((Yld.to (u:=.slice (some ⟨gp,op,none⟩) x.peers.length cp) (La lF) hvp)) ?_
 refine Qa (Ga underlying117 sizeOf3) ?_
 refine Qa (La o3) ?_
 refine Qa ((QE underlying107 sizeOf161 rfl rfl Om)) ?_
 refine Qa (Xs rfl) ?_
 refine Xj ?_
 refine k5 (cS λ_ k6=>cS λ_ k7=>Qc ?_)
 refine Pa (Ga underlying117 sizeOf4) ?_
 refine Pa (La o4) ?_
 refine Pa (Xa rfl) (Qd (k7 ?_))
 refine Qi rfl (λhc29=>?_) (λhc29=>?_)
 have f3:m.ok=false:=by simpa using hc29
 rw[if_pos f3]at hN
 refine cS λ_ k9=>?_
 refine mG (L:=[QA b3 (Xl m ve) 117,Zy v x]) [0,1,2,3,4,5,6,7,8,9,10,11,12,13,14,15,16,17] [] [18] ?_
 refine Wc rfl (Qf rfl) ?_
 refine Wc rfl (Qf rfl) ?_
 refine Wc rfl (Qe rfl) ?_
 refine Wc rfl (Ga underlying161 sizeOf36) ?_
 refine Wc rfl (XC (v:=v.vp) QO (by rw[hvp,zh,<-Nat.add_assoc];rfl) Qm hn0) ?_
 refine Wc rfl (yg rfl rfl Om) ?_
 refine Wc rfl (Ga underlying117 sizeOf36) ?_
 refine Wc rfl (La QO) ?_
 refine Wc rfl (Yg rfl rfl Om) ?_
 refine Wc rfl (gH rfl rfl) ?_
 refine Wc rfl (Qf rfl) ?_
 refine Wc rfl (Qe rfl) ?_
 refine Wc rfl (Ga underlying161 sizeOf36) ?_
 refine Wc rfl (XC (v:=v.vp) QO (by rw[hvp,zh,<-Nat.add_assoc];rfl) Qm hn1) ?_
 refine Wc rfl (Yg rfl rfl Om) ?_
 refine Wc rfl (ee rfl rfl) ?_
 refine Wc rfl (Qe rfl) ?_
 refine Wc rfl (Ga underlying161 sizeOf36) ?_
 refine Xq ?_
 refine Xt ?_
 try simp only[cC]
 refine qH (v:=v.vp) (ys:=XT (x.setPeer to (max (min (x.nxt to-1) (m.index+1)) (x.mat to+1),x.mat to)).peers) QO (Qo rfl) (j:=m.frm.toNat*2+0) (by rw[hvp,zh,<-Nat.add_assoc];rfl) rfl rfl Qm (by rw[cY];omega) (by rw[(eK x.peers to m.frm _ hfto htl).1];rfl) Om ?_
 refine Qd (k9 ?_)
 refine cE [0,3] ?_
 refine cS λ_ k10=>Qc (Pm ?_)
 refine Pa (Ga underlying117 sizeOf3) ?_
 refine Pa (La o3) ?_
 obtain⟨y1,hy1⟩:∃y,y=x.setPeer to (max (min (x.nxt to-1) (m.index+1)) (x.mat to+1),x.mat to):=⟨_,rfl⟩
 have hyn:NIn k y1:=by rw[hy1];exact hx.setPeer to Do
 have hyv:NOk R v y1:=by rw[hy1];exact hv.to (Hp.le_refl _) ⟨rfl,rfl,rfl⟩
 have hyl:y1.peers.length=x.peers.length:=by rw[hy1];exact List.length_set
 have hft:=pI (R:=R) b v y1 k Om hyn hyv to Om
 rw[<-hfto]at hft
 refine XM (A:=QN 161 2 v.vp x.peers.length (XT (x.setPeer to (max (min (x.nxt to-1) (m.index+1)) (x.mat to+1),x.mat to)).peers)) (B:=Zy v y1) Qm (λh hh=>by show QN _ _ _ y1.peers.length _ h;rw[hyl,hy1];exact hh) ?_
 refine XM (A:=Xk b v x) (B:=Xk b v y1) Qm (λh hh=>by rw[hy1];exact hh) ?_
 refine XM (A:=Yo b v x) (B:=Yo b v y1) Qm (λh hh=>by rw[hy1];exact hh) ?_
 refine XM (A:=Yu v x) (B:=Yu v y1) Qm (λh hh=>by rw[hy1];exact hh) ?_
 refine XM (A:=za v.vm x.votes) (B:=za v.vm y1.votes) Qm (λh hh=>by rw[hy1];exact hh) ?_
 refine Ra call70 (hft) ?_
 rintro r R2 L' hR2 ⟨vo,css,hels,hvo2,rfl⟩
 try simp only[cB]
 refine Qd (k10 ?_)
 refine cE [] ?_
 refine Qg (r_ ?_)
 refine Er results79 (XA b (v.sent vo css) (y1.feed to) D) (by first|exact Hp.le_refl _|assumption) ?_
 rw[hN,<-hy1];exact⟨rfl,_,hyv.sent (y:=y1.feed to) hR2 ⟨rfl,rfl⟩ hels hvo2,by rw[hy1]⟩
 have f3:¬m.ok=false:=by simpa using hc29
 rw[if_neg f3]at hN
 refine Qh (k6 (cS λ_ k11=>?_))
 refine mG (L:=[QA b3 (Xl m ve) 117,Zy v x,Xk b v x,Yo b v x]) [0,1,2,3,4,5,6,7,8,9,10,11,12,13,14,15] [] [16] ?_
 refine Wc rfl (Qf rfl) ?_
 refine Wc rfl (Qf rfl) ?_
 refine Wc rfl (Qe rfl) ?_
 refine Wc rfl (Ga underlying161 sizeOf36) ?_
 refine Wc rfl (XC (v:=v.vp) QO (by rw[hvp,zh,<-Nat.add_assoc];rfl) Qm hn1) ?_
 refine Wc rfl (Ga underlying117 sizeOf36) ?_
 refine Wc rfl (La QO) ?_
 refine Wc rfl (Qf rfl) ?_
 refine Wc rfl (Qe rfl) ?_
 refine Wc rfl (Ga underlying109 sizeOf55) ?_
 refine Wc rfl (La Zz) ?_
 refine Wa rfl (λR1 hR1 G=>(Ca call60 (Zq b.l (some ⟨b.d,0,none⟩) v.va x.g hg (hv.va.mono hR1)))) ?_
 refine Wc rfl (gH rfl rfl) ?_
 refine Wc rfl (ee rfl rfl) ?_
 refine Wc rfl (Qe rfl) ?_
 refine Wc rfl (Ga underlying161 sizeOf36) ?_
 refine Xq ?_
 refine Xt ?_
 try simp only[cC]
 refine qH (v:=v.vp) (ys:=XT (x.setPeer to (x.nxt to,k1)).peers) QO (Qo rfl) (j:=m.frm.toNat*2+1) (by rw[hvp,zh,<-Nat.add_assoc];rfl) rfl rfl Qm (by rw[cY];omega) (by rw[(eK x.peers to m.frm _ hfto htl).2,<-hk1];rfl) Om ?_
 refine Qd (k11 ?_)
 refine cE [0,3,4] ?_
 refine cS λ_ k12=>Qc (Pm (Pm ?_))
 refine Pa (Qe rfl) ?_
 refine Pa (Ga underlying161 sizeOf36) ?_
 refine Pa ((XC (v:=v.vp) QO (by rw[hvp,zh,<-Nat.add_assoc];rfl) Qm (show ZO (XT (x.setPeer to (x.nxt to,k1)).peers) (m.frm.toNat*2+1)=some (.int .u64 k1)by have h:=(jP (x.setPeer to (x.nxt to,k1)).peers to m.frm hfto (by show to<(x.peers.set to _).length;rw[List.length_set];exact htl)).2;rw[show((x.setPeer to (x.nxt to,k1)).peers.getD to (0,0))=(x.nxt to,k1)from fP htl _]at h;exact h))) ?_
 refine Pa ((Yg rfl rfl Om)) ?_
 refine Pa (Qe rfl) ?_
 refine Pa (Ga underlying161 sizeOf36) ?_
 refine qH (v:=v.vp) (ys:=XT (x.setPeer to (k1+1,k1)).peers) QO (Qo rfl) (j:=m.frm.toNat*2+0) (by rw[hvp,zh,<-Nat.add_assoc];rfl) rfl rfl Qm (by rw[cY];show _<(x.peers.set to _).length*2;rw[List.length_set];omega) (by rw[(eK (x.setPeer to (x.nxt to,k1)).peers to m.frm _ hfto (by show to<(x.peers.set to _).length;rw[List.length_set];exact htl)).1];show XT ((x.peers.set to _).set to (_,((x.peers.set to _).getD to (0,0)).2))=_;rw[fP htl,List.set_set];rfl) Om ?_
 refine Qd (k12 (cS λ_ k13=>Qc (Pm ?_)))
 obtain⟨y2,hy2⟩:∃y,y=x.setPeer to (k1+1,k1):=⟨_,rfl⟩
 have hyn:NIn k y2:=by rw[hy2];exact hx.setPeer to Do
 have hyl:y2.peers.length=x.peers.length:=by rw[hy2];exact List.length_set
 refine XM (A:=QN 161 2 v.vp x.peers.length (XT (x.setPeer to (k1+1,k1)).peers)) (B:=Zy v y2) Qm (λh hh=>by show QN _ _ _ y2.peers.length _ h;rw[hyl,hy2];exact hh) ?_
 refine XM (A:=Xk b v x) (B:=Xk b v y2) Qm (λh hh=>by rw[hy2];exact hh) ?_
 refine XM (A:=Yo b v x) (B:=Yo b v y2) Qm (λh hh=>by rw[hy2];exact hh) ?_
 refine XM (A:=Yu v x) (B:=Yu v y2) Qm (λh hh=>by rw[hy2];exact hh) ?_
 refine XM (A:=za v.vm x.votes) (B:=za v.vm y2.votes) Qm (λh hh=>by rw[hy2];exact hh) ?_
 refine Ra call88 (tb b v y2 k Om hyn (by rw[hy2];exact hv.va) hv.vp (by rw[hyl,hy2];exact hpl)) ?_
 rintro r R5 L' hR5 rfl
 have hyc:=NIn.count Om hyn
 rw[<-hy2]at hN
 obtain⟨c,hc⟩:=cq y2
 rw[hc]at hN hyc|-
 have hyv:NOk R5 v {y2 with commit:=c}:=by rw[hy2];exact hv.to hR5 ⟨rfl,rfl,rfl⟩
 have hgy:=hyc.g Om
 have hn2:ZO (XT y2.peers) (m.frm.toNat*2+0)=some (.int .u64 (k1+1)):=by have h:=(jP y2.peers to m.frm hfto Om).1;rw[show(y2.peers.getD to (0,0))=(k1+1,k1)by rw[hy2];exact fP htl _]at h;exact h
 try simp only[cB]
 refine Qd (k13 (cS λ_ k14=>?_))
 refine dW ?_
 refine Qa (Qf rfl) ?_
 refine Qa (Qe rfl) ?_
 refine Qa (Ga underlying161 sizeOf36) ?_
 refine Qa ((XC (v:=v.vp) QO (by rw[hvp,zh,<-Nat.add_assoc];rfl) Qm hn2)) ?_
 refine Qa (Qf rfl) ?_
 refine Qa (Qe rfl) ?_
 refine Qa (Ga underlying109 sizeOf55) ?_
 refine Qa (La Zz) ?_
 refine Qa (Ca call60 (Zq b.l (some ⟨b.d,0,none⟩) v.va y2.g hgy hyv.va)) ?_
 refine Qa (aL rfl rfl) ?_
 refine Xj ?_
 refine k14 ?_
 refine cE [0,3,87] ?_
 refine Qi rfl (λhc87=>?_) (λhc87=>?_)
 have f4:k1+1<=y2.g.last:=by simpa using hc87
 rw[if_pos f4]at hN
 have hft:=pI (R:=R5) b v {y2 with commit:=c} k Om hyc hyv to (by show to<y2.peers.length;omega)
 rw[<-hfto]at hft
 refine Qc (Pm ?_)
 refine Pa (Ga underlying117 sizeOf3) ?_
 refine Pa (La o3) ?_
 refine Ra call70 (hft) ?_
 rintro r R6 L' hR6 ⟨vo,css,hels,hvo2,rfl⟩
 have hR56:=Hp.le_trans hR5 hR6
 try simp only[cB]
 refine Qd (n_ ?_)
 refine Et results79 (XA b (v.sent vo css) (ND.feed {y2 with commit:=c} to) D) (by first|exact Hp.le_refl _|assumption) ?_
 rw[hN];exact⟨rfl,_,hyv.sent (y:=ND.feed {y2 with commit:=c} to) hR6 ⟨rfl,rfl⟩ hels hvo2,rfl⟩
 have f4:¬k1+1<=y2.g.last:=by simpa using hc87
 rw[if_neg f4]at hN
 refine Qh (n_ ?_)
 refine Et results79 (XA b v {y2 with commit:=c} D) (by first|exact Hp.le_refl _|assumption) ?_
 rw[hN];exact⟨rfl,_,hyv,rfl⟩
theorem Ag(g:LG)(i:Int):ND.fits g [] i=none:=rfl
theorem zf{g:LG}{e:Qy}{l:List Qy}{i:Int}(h:(g.at i).map (·.1)=some e.1):ND.fits g (e::l) i=ND.fits g l (i+1):=by show(if _ then _ else _)=_;rw[if_pos h]
theorem zq{g:LG}{e:Qy}{l:List Qy}{i:Int}(h:¬(g.at i).map (·.1)=some e.1):ND.fits g (e::l) i=some (i,e::l):=by show(if _ then _ else _)=_;rw[if_neg h]
theorem NIn.commits(h:NIn k x)(m:Msg)(hm:0<=m.commit){last:Int}(hl:0<=last/\last<=150000000000000):NIn k (x.commits m last):=
 ⟨h.idn,h.term,h.vote,h.base,h.baseT,h.state,h.alln,h.all,by have:=h.commit;show 0<=max x.commit (min m.commit last)/\max x.commit (min m.commit last)<=_;omega,h.patience,h.peers,h.peer,h.votes,h.out⟩
theorem pU(hx:NIn k x)(hm:MIn k x.n m):(0<=(x.cutM m).1/\(x.cutM m).1<=100000000000000)/\(x.cutM m).2.length<=20/\∀e∈(x.cutM m).2,(0<=e.1/\e.1<=2305843009213693952+k)/\e.2.length<=100:=by
 have h1:=hx.base
 have h2:=hm.index
 have h3:=hm.es
 unfold ND.cutM
 split
 ·exact⟨h1,by simp;omega,λe he=>h3.2 e (List.mem_of_mem_drop he)⟩
 ·exact⟨h2,h3⟩
theorem termAt_some{g:LG}{i:Int}:¬g.termAt i=some t↔(g.termAt i).isSome=false\/¬(g.termAt i).getD 0=t:=by
 cases g.termAt i<;>simp
theorem kN{l:List Qy}(h:l.length<=20)(hb:∀e∈l,e.2.length<=100):Yc l<=16000000:=by
 have:∀(l:List Qy),(∀e∈l,e.2.length<=100)->Yc l<=120*l.length:=by
  intro l
  induction l with
  |nil=>intro _;simp[Yc]
  |cons e l ih=>
   intro h
   have h1:=ih (λx hx=>h x (by simp[hx]))
   have h2:=h e Si
   simp[Yc]at h1|-;omega
 have:=this l hb
 omega
def ae(x:ND)(D:DK)(m:Msg)(c:Int×List Qy):Bool×NS:=match ND.fits x.g c.2 (c.1+1)with
 |none=>(true,((x.commits m (c.1+c.2.length)).answer m true (c.1+c.2.length),D))
 |some (i,l)=>if i<=x.commit then(true,(x,D))else Xo (QY (x,D) (x.g.addD D (i-1) l)) λs=>(true,((s.1.commits m (c.1+c.2.length)).answer m true (c.1+c.2.length),s.2))
theorem hH(h1:¬(m.index<x.g.base/\(m.es.length:Int)<x.g.base-m.index))(h2:¬(¬m.index<x.g.base/\¬x.g.termAt m.index=some m.logTerm)):
  qJ (x,D) m=ae x D m (x.cutM m):=by
 unfold qJ
 rw[if_neg h1,if_neg h2]
 rfl
theorem t9{bh:Int}{l:List Qy}(h:ND.fits x.g l (bh+1)=none):ae x D m (bh,l)=(true,((x.commits m (bh+l.length)).answer m true (bh+l.length),D)):=by
 unfold ae;simp only[h]
theorem kl{bh i:Int}{l l2:List Qy}(h:ND.fits x.g l (bh+1)=some (i,l2)):ae x D m (bh,l)=if i<=x.commit then(true,(x,D))else Xo (QY (x,D) (x.g.addD D (i-1) l2)) λs=>(true,((s.1.commits m (bh+l.length)).answer m true (bh+l.length),s.2)):=by
 unfold ae;simp only[h]
theorem az{α:Type}{l:List α}{e:α}(h:l[i]?=some e):l.drop i=e::l.drop (i+1):=by
 have hi:=(List.getElem?_eq_some_iff.1 h).1
 rw[List.drop_eq_getElem_cons hi]
 rw[List.getElem?_eq_getElem hi]at h
 cases h;rfl
theorem FQ(b:NB)(v:NV)(x:ND)(D:DK)(m:Msg)(ve:Value)(k n:Nat)(hk:k<=50)(hx:NIn k x)(hv:NOk R v x)(hm:MIn k x.n m)(hve:FrX entE R m.es ve)(hD:D.ok n)(hn:n<=800000000):
   Tri prog 98 [.pointer (some ⟨b.x,0,none⟩),.agg ⟨Xl m ve⟩] R (XA b v x D) (dy b (qJ (x,D) m)) (dz b (qJ (x,D) m)):=by
 have hidn:=hx.idn
 have hveo:=hve.one
 have hidx:=hm.index
 have hbs:=hx.base
 have hob:=hx.out
 have hes:=hm.es
 have hg:=hx.g Om
 have hlb:=LG.last_b hg
 have hcm:=hm.commit
 have hco:=hx.commit
 obtain⟨hc1,hc2,hc3⟩:=pU hx hm
 obtain⟨qe,ce,rfl,hqe1,hqe2⟩:=hve.shape
 have hva:=hv.va
 have hterm:=hx.term
 refine To func98 ntmps98 λσ F _ r_ n_ hpan=>?_
 try simp only[cB]
 refine cS λ_ k1=>?_
 refine Qc ?_
 refine Xc (Qo rfl) rfl rfl rfl (λb3=>?_)
 refine Qd ?_
 refine k1 ?_
 refine cS λ_ k2=>?_
 refine dW ?_
 refine Qa (Ga underlying117 sizeOf36) ?_
 refine Qa (La QO) ?_
 refine Qa (Ga underlying117 sizeOf76) ?_
 refine Qa (La zG) ?_
 refine Qa (Xs rfl) ?_
 refine Qa (Xs rfl) ?_
 refine Xj ?_
 refine k2 ?_
 refine XN λK3 hK3=>?_
 have hJ11:∀(x1:Int×List Qy×Value),(x1.1,x1.2.1)=x.cutM m/\FrX entE R x1.2.1 x1.2.2/\qJ (x,D) m=ae x D m (x1.1,x1.2.1)->EJ ⟨prog,150,σ⟩ K3 [(0,.pointer (some ⟨b.x,0,none⟩)),(3,.pointer (some ⟨b3,0,none⟩)),(4,.int .u64 x1.1),(5,x1.2.2)] R (QA b3 (Xl m (.slice qe m.es.length ce)) 117::Xk b v x::Yo b v x::Xg b.d v.u D::Xf v.u D::Zy v x::za v.vm x.votes::Yu v x::F):=by
  rintro⟨bh,l,vl⟩ ⟨hcut,hl,hnot⟩
  try dsimp only
  dsimp only at hcut hl hnot
  have hbh:=hc1
  rw[<-hcut]at hbh hc2 hc3
  dsimp only at hbh hc2 hc3
  obtain⟨ql,cl,rfl,hql1,hql2⟩:=hl.shape
  refine hK3 _ _ _ ?_
  refine cS λ_ k4=>?_
  refine Qc ?_
  refine Pm ?_
  refine Pm ?_
  refine Pa (QV underlying76 rfl) ?_
  refine Pa ((XE underlying3 underlying36 rfl (by(simp only[IntKind.min,IntKind.max,IntKind.signed,IntKind.bits,Bool.false_eq_true,ite_false,ite_true];omega)))) ?_
  refine Pa ((Yg rfl rfl Om)) ?_
  refine Ps ?_
  refine Qd ?_
  refine k4 ?_
  refine XN λK5 hK5=>?_
  have hJ21:∀(x2:ND×NV×DK×Hp),NIn (k+1) x2.1/\NOk x2.2.2.2 x2.2.1 x2.1/\R.le x2.2.2.2/\qJ (x,D) m=(true,((x2.1.commits m (bh+l.length)).answer m true (bh+l.length),x2.2.2.1))->EJ ⟨prog,150,σ⟩ K5 [(0,.pointer (some ⟨b.x,0,none⟩)),(3,.pointer (some ⟨b3,0,none⟩)),(12,.int .u64 (bh+(l.length:Int)))] x2.2.2.2 (QA b3 (Xl m (.slice qe m.es.length ce)) 117::Xk b x2.2.1 x2.1::Yo b x2.2.1 x2.1::Xg b.d x2.2.1.u x2.2.2.1::Xf x2.2.1.u x2.2.2.1::Zy x2.2.1 x2.1::za x2.2.1.vm x2.1.votes::Yu x2.2.1 x2.1::F):=by
   rintro⟨y,v2,D2,R2⟩ ⟨hy,hv2,hR2,hF⟩
   try dsimp only
   dsimp only at hy hv2 hR2 hF
   have hyo:=hy.out
   have hyc:=hy.commits m hcm.1 (last:=bh+l.length) Om
   refine hK5 _ _ _ ?_
   refine cS λ_ k6=>?_
   refine mG (L:=[QA b3 (Xl m (.slice qe m.es.length ce)) 117,Xk b v2 y]) [0,1,2,3,4,5,6,7,8,9,10,11] [] [12] ?_
   refine Wc rfl (Qf rfl) ?_
   refine Wc rfl (Qf rfl) ?_
   refine Wc rfl (Qe rfl) ?_
   refine Wc rfl (Ga underlying109 sizeOf36) ?_
   refine Wc rfl (La QO) ?_
   refine Wc rfl (Ga underlying117 sizeOf36) ?_
   refine Wc rfl (La QO) ?_
   refine Wc rfl (Qf rfl) ?_
   refine Wc rfl (gH rfl rfl) ?_
   refine Wc rfl (ee rfl rfl) ?_
   refine Wc rfl (Qe rfl) ?_
   refine Wc rfl (Ga underlying109 sizeOf36) ?_
   refine Xq ?_
   refine Xt ?_
   try simp only[cC]
   refine Sa QO ?_
   refine Qd ?_
   refine k6 ?_
   refine cE [0,3,12] ?_
   refine Qc ?_
   refine Pm ?_
   refine Pa (Lb Yl) ?_
   refine Pm ?_
   refine Ra call97 (jY b v2 (y.commits m (bh+l.length)) m (.slice qe m.es.length ce) true (bh+l.length) hv2.out hv2.vo (by show y.out.length<=_;omega) hveo) ?_
   rintro r R6 L' hR6 ⟨vo,css,hels,hvo2,rfl⟩
   have hR26:=Hp.le_trans hR2 hR6
   try simp only[cB]
   refine Qd ?_
   refine n_ ?_
   refine Et results98 (XA b (v2.sent vo css) ((y.commits m (bh+l.length)).answer m true (bh+l.length)) D2) (by first|exact Hp.le_refl _|assumption) ?_
   rw[hF];exact⟨rfl,_,hv2.sent (y:=(y.commits m (bh+l.length)).answer m true (bh+l.length)) hR6 ⟨rfl,rfl⟩ hels hvo2,rfl⟩
  refine cS λ_ k7=>?_
  refine Qc ?_
  refine Pm ?_
  refine Pa (QV underlying76 rfl) ?_
  refine Pm ?_
  refine Qd ?_
  refine k7 ?_
  refine Qp ?_
  refine Lp (λ(x3:Nat)=>[(0,.pointer (some ⟨b.x,0,none⟩)),(3,.pointer (some ⟨b3,0,none⟩)),(4,.int .u64 bh),(5,.slice ql l.length cl),(12,.int .u64 (bh+(l.length:Int))),(86,.slice ql l.length cl),(87,.int .i64 (l.length:Int)),(88,.int .i64 (x3:Int))]) (λx3=>R) (λx3=>QA b3 (Xl m (.slice qe m.es.length ce)) 117::Xk b v x::Yo b v x::Xg b.d v.u D::Xf v.u D::Zy v x::za v.vm x.votes::Yu v x::F) (λx3=>x3<=l.length/\ND.fits x.g l (bh+1)=ND.fits x.g (l.drop x3) (bh+1+x3)) (λx3=>l.length-x3) 0 (⟨by simp,by simp⟩) ?_
  rintro i ⟨hi,hfk⟩
  try dsimp only
  refine cS λ_ k8=>?_
  refine Qc ?_
  refine Pa (QR rfl rfl) ?_
  refine Qd ?_
  refine k8 ?_
  refine cS λ_ k9=>?_
  refine Qi rfl (λhc89=>?_) (λhc89=>?_)
  ·try simp only[dx]at hc89
   refine Qh ?_
   refine k9 ?_
   refine cS λ_ k11=>?_
   refine Qp ?_
   refine cS λ_ k12=>?_
   refine Qc ?_
   have hin:i<l.length:=by(try simp at hc89);omega
   obtain⟨e,he⟩:∃e,l[i]?=some e:=⟨_,List.getElem?_eq_getElem hin⟩
   obtain⟨be,oe,ce',cse,hee,rfl,_,hcell⟩:=hl.at he
   obtain⟨rfl,rfl⟩:ql=some ⟨be,oe,none⟩/\cl=ce':=by cases hee;exact⟨rfl,rfl⟩
   have hat:=gq (R:=R) b.l (some ⟨b.d,0,none⟩) v.va x.g hg hva (bh+1+i) (by unfold QQ;omega)
   obtain⟨eo,ok,hev,hok1,hok2⟩:=fc (x.g.at (bh+1+i))
   have heb:=hc3 e (List.mem_of_getElem? he)
   refine Pm ?_
   refine Pa (QE underlying76 sizeOf93 rfl rfl Qu) ?_
   refine Pa ((Yq yQ (vs:=XB e) rfl rfl (λj u hj=>hcell j u hj))) ?_
   refine QC (Qo rfl) rfl zeroValue93 rfl (λb14=>?_)
   refine Ps ?_
   refine Sm (vs:=XB e) yQ (entE.one (R:=R) (x:=e) rfl) ?_
   refine Qd ?_
   refine k12 ?_
   refine cS λ_ k13=>?_
   refine Qc ?_
   refine Pm ?_
   refine Pa ((Yg rfl rfl Om)) ?_
   refine Pm ?_
   refine Pa ((XE underlying3 underlying36 rfl (by(simp only[IntKind.min,IntKind.max,IntKind.signed,IntKind.bits,Bool.false_eq_true,ite_false,ite_true];omega)))) ?_
   refine Pa ((Yg rfl rfl Om)) ?_
   refine Ps ?_
   refine Qd ?_
   refine k13 ?_
   refine cS λ_ k14=>?_
   refine cS λ_ k15=>?_
   refine Qc ?_
   refine Pm ?_
   refine Pa (Qe rfl) ?_
   refine Pa (Ga underlying109 sizeOf55) ?_
   refine Pa (La Zz) ?_
   refine Pm ?_
   refine Pa (Ca call40 (hat)) ?_
   refine Xx 104 rfl (v':=QI [.agg ⟨XB eo⟩,.bool ok]) hev ?_
   refine Pm ?_
   refine Pa (Ql rfl rfl) ?_
   refine Pa (Ql rfl rfl) ?_
   refine QC (Qo rfl) rfl zeroValue93 rfl (λb16=>?_)
   refine Sm (vs:=XB eo) yQ (entE.one (R:=R) (x:=eo) rfl) ?_
   refine Ps ?_
   refine Qd ?_
   refine k15 ?_
   refine cE [0,3,4,5,12,13,14,15,16,17,86,87,88] ?_
   refine cS λ_ k16=>?_
   refine Qc ?_
   refine Pm ?_
   refine Pm ?_
   refine QM 108 rfl (λhg108=>?_) (λhg108=>?_)
   ·have g1:=hok1 (by simpa using hg108)
    refine Pb (Ga underlying93 sizeOf36) ?_
    refine Pb (La QO) ?_
    refine Pb (Ga underlying93 sizeOf36) ?_
    refine Pb (La QO) ?_
    refine Pb (QL rfl rfl) ?_
    refine Pa (Qq rfl rfl) ?_
    refine Qd ?_
    refine k16 ?_
    refine Qi rfl (λhc114=>?_) (λhc114=>?_)
    ·first|(have hyes:(x.g.at (bh+1+i)).map (·.1)=some e.1:=by rw[g1];simpa using hc114)|skip
     refine QG ?_
     refine k11 ?_
     refine Qc ?_
     refine Pa (Qz rfl rfl Qu) ?_
     refine Pm ?_
     refine Qd ?_
     refine ro rfl (rd (i+1) (⟨by omega,by rw[hfk,az he,zf hyes];congr 1;omega⟩) Om)
    ·first|(have hno:¬(x.g.at (bh+1+i)).map (·.1)=some e.1:=by rw[g1];simpa using hc114)|skip
     refine Qh ?_
     refine k14 ?_
     refine cS λ_ k18=>?_
     refine cS λ_ k19=>?_
     have hfs:qJ (x,D) m=if bh+1+i<=x.commit then(true,(x,D))else Xo (QY (x,D) (x.g.addD D (bh+1+i-1) (l.drop i))) λs=>(true,((s.1.commits m (bh+l.length)).answer m true (bh+l.length),s.2)):=by rw[hnot,kl (by rw[hfk,az he,zq hno])];rw[az he]
     refine Qc ?_
     refine Pm ?_
     refine Pm ?_
     refine Pa (Qe rfl) ?_
     refine Pa (Ga underlying109 sizeOf36) ?_
     refine Pa (La QO) ?_
     refine Pa (aL rfl rfl) ?_
     refine Qd ?_
     refine k19 ?_
     refine Qi rfl (λhc120=>?_) (λhc120=>?_)
     ·have g2:bh+1+i<=x.commit:=by simpa using hc120
      rw[if_pos g2]at hfs
      refine Qg ?_
      refine r_ ?_
      refine Er results98 (XA b v x D) (by first|exact Hp.le_refl _|assumption) ?_
      rw[hfs];exact⟨rfl,v,hv,rfl⟩
     ·have g2:¬bh+1+i<=x.commit:=by simpa using hc120
      rw[if_neg g2]at hfs
      obtain⟨ra,hra⟩:∃r,r=x.g.addD D (bh+1+i-1) (l.drop i):=⟨_,rfl⟩
      rw[<-hra]at hfs
      have hAs:=hfs
      have hsd:=hl.sub (a:=i) (b:=l.length) Om Om
      rw[List.take_of_length_le Si]at hsd
      have hdl:(l.drop i).length<=20:=by simp;omega
      have hdb:∀e∈l.drop i,(0<=e.1/\e.1<=2305843009213693952+k)/\e.2.length<=100:=λe he=>hc3 e (List.mem_of_mem_drop he)
      have hdE:Yc (l.drop i)<=16000000:=kN hdl (λe he=>(hdb e he).2)
      refine Qh ?_
      refine k18 ?_
      refine cS λ_ k21=>?_
      refine mG (L:=[Xk b v x]) [0,1,2,3,4,5,6,7,8,9] [10] [11] ?_
      refine Wc rfl (Qf rfl) ?_
      refine Wc rfl (Qf rfl) ?_
      refine Wc rfl (Qe rfl) ?_
      refine Wc rfl (Ga underlying109 sizeOf55) ?_
      refine Wc rfl (La Zz) ?_
      refine Wc rfl (Qf rfl) ?_
      refine Wc rfl (yg rfl rfl Om) ?_
      refine Wc rfl (Qf rfl) ?_
      refine Wc rfl (Qf rfl) ?_
      refine Wc rfl (qu (l:=i) (h:=l.length) underlying76 sizeOf93 rfl ⟨.i64,rfl⟩ rfl Om) ?_
      refine Xq ?_
      refine QT rfl ?_
      try simp only[cC]
      refine Ra call87 (lN b.l b.d v.va v.u _ x.g D n (bh+1+i-1) (l.drop i) hg (by unfold QQ;omega) hva hsd Om (λe he=>⟨by have:=(hdb e he).1;unfold QQ;omega,by have:=(hdb e he).2;omega⟩) hdE hD Om) ?_
      rintro r R4 L' hR4 ⟨rfl,u2,va2,hva2,rfl⟩
      rw[<-hra]at hva2|-
      try simp only[cB]
      refine QU QB Qw ?_
      refine Xt ?_
      try simp only[cC]
      refine XW (Qo rfl) rfl call74 rfl (bY b (v.logd u2 va2) x _) Za (λch Rp Lp hRp hpp=>?_) ?_
      · obtain⟨he1,rfl,rfl⟩:=hpp
        try simp only[cB]
        refine hpan _ _ _ _ ?_
        refine Zm _ (XA b (v.logd u2 va2) {x with g:=ra.2.1,down:=true} ra.2.2) (by first|exact Hp.le_refl _|assumption|exact Hp.le_trans ‹_› ‹_›|exact Hp.le_trans hR4 hRp) rfl Qw ?_
        exact⟨by rw[hAs];simp[Xo,QY,he1],rfl,v.logd u2 va2,by rw[hAs];simp only[Xo,QY,if_neg he1];exact hv.logd (y:={x with g:=ra.2.1,down:=true}) (Hp.le_trans hR4 hRp) ⟨rfl,rfl⟩ (hva2.mono hRp),by rw[hAs];simp[Xo,QY,he1]⟩
      rintro r R5 L' hR5 ⟨he0,rfl⟩
      have hx1:NIn (k+1) {x with g:=ra.2.1}:=by rw[hra,hO (by rw[<-hra];exact he0)];exact hx.add hdb hdl
      have hR35:=Hp.le_trans hR4 hR5
      have hv1:NOk R5 (v.logd u2 va2) {x with g:=ra.2.1}:=hv.logd (y:={x with g:=ra.2.1}) hR35 ⟨rfl,rfl⟩ (hva2.mono hR5)
      try simp only[cB]
      refine Qd ?_
      refine k21 ?_
      refine cE [0,3,12] ?_
      refine QG ?_
      refine Jn hJ21 (({x with g:=ra.2.1},v.logd u2 va2,ra.2.2,R5)) (⟨hx1,hv1,hR35,by rw[hAs];simp[Xo,QY,he0]⟩)
   ·have g1:=hok2 (by simpa using hg108)
    have hno:¬(x.g.at (bh+1+i)).map (·.1)=some e.1:=by rw[g1];simp
    refine Pk ?_
    refine Pk ?_
    refine Pk ?_
    refine Pk ?_
    refine Pk ?_
    refine Pa (Qn rfl rfl) ?_
    refine Qd ?_
    refine k16 ?_
    refine Qt rfl ?_
    refine Qh ?_
    refine k14 ?_
    refine cS λ_ k22=>?_
    refine cS λ_ k23=>?_
    have hfs:qJ (x,D) m=if bh+1+i<=x.commit then(true,(x,D))else Xo (QY (x,D) (x.g.addD D (bh+1+i-1) (l.drop i))) λs=>(true,((s.1.commits m (bh+l.length)).answer m true (bh+l.length),s.2)):=by rw[hnot,kl (by rw[hfk,az he,zq hno])];rw[az he]
    refine Qc ?_
    refine Pm ?_
    refine Pm ?_
    refine Pa (Qe rfl) ?_
    refine Pa (Ga underlying109 sizeOf36) ?_
    refine Pa (La QO) ?_
    refine Pa (aL rfl rfl) ?_
    refine Qd ?_
    refine k23 ?_
    refine Qi rfl (λhc120=>?_) (λhc120=>?_)
    ·have g2:bh+1+i<=x.commit:=by simpa using hc120
     rw[if_pos g2]at hfs
     refine Qg ?_
     refine r_ ?_
     refine Er results98 (XA b v x D) (by first|exact Hp.le_refl _|assumption) ?_
     rw[hfs];exact⟨rfl,v,hv,rfl⟩
    ·have g2:¬bh+1+i<=x.commit:=by simpa using hc120
     rw[if_neg g2]at hfs
     obtain⟨ra,hra⟩:∃r,r=x.g.addD D (bh+1+i-1) (l.drop i):=⟨_,rfl⟩
     rw[<-hra]at hfs
     have hAs:=hfs
     have hsd:=hl.sub (a:=i) (b:=l.length) Om Om
     rw[List.take_of_length_le Si]at hsd
     have hdl:(l.drop i).length<=20:=by simp;omega
     have hdb:∀e∈l.drop i,(0<=e.1/\e.1<=2305843009213693952+k)/\e.2.length<=100:=λe he=>hc3 e (List.mem_of_mem_drop he)
     have hdE:Yc (l.drop i)<=16000000:=kN hdl (λe he=>(hdb e he).2)
     refine Qh ?_
     refine k22 ?_
     refine cS λ_ k25=>?_
     refine mG (L:=[Xk b v x]) [0,1,2,3,4,5,6,7,8,9] [10] [11] ?_
     refine Wc rfl (Qf rfl) ?_
     refine Wc rfl (Qf rfl) ?_
     refine Wc rfl (Qe rfl) ?_
     refine Wc rfl (Ga underlying109 sizeOf55) ?_
     refine Wc rfl (La Zz) ?_
     refine Wc rfl (Qf rfl) ?_
     refine Wc rfl (yg rfl rfl Om) ?_
     refine Wc rfl (Qf rfl) ?_
     refine Wc rfl (Qf rfl) ?_
     refine Wc rfl (qu (l:=i) (h:=l.length) underlying76 sizeOf93 rfl ⟨.i64,rfl⟩ rfl Om) ?_
     refine Xq ?_
     refine QT rfl ?_
     try simp only[cC]
     refine Ra call87 (lN b.l b.d v.va v.u _ x.g D n (bh+1+i-1) (l.drop i) hg (by unfold QQ;omega) hva hsd Om (λe he=>⟨by have:=(hdb e he).1;unfold QQ;omega,by have:=(hdb e he).2;omega⟩) hdE hD Om) ?_
     rintro r R4 L' hR4 ⟨rfl,u2,va2,hva2,rfl⟩
     rw[<-hra]at hva2|-
     try simp only[cB]
     refine QU QB Qw ?_
     refine Xt ?_
     try simp only[cC]
     refine XW (Qo rfl) rfl call74 rfl (bY b (v.logd u2 va2) x _) Za (λch Rp Lp hRp hpp=>?_) ?_
     · obtain⟨he1,rfl,rfl⟩:=hpp
       try simp only[cB]
       refine hpan _ _ _ _ ?_
       refine Zm _ (XA b (v.logd u2 va2) {x with g:=ra.2.1,down:=true} ra.2.2) (by first|exact Hp.le_refl _|assumption|exact Hp.le_trans ‹_› ‹_›|exact Hp.le_trans hR4 hRp) rfl Qw ?_
       exact⟨by rw[hAs];simp[Xo,QY,he1],rfl,v.logd u2 va2,by rw[hAs];simp only[Xo,QY,if_neg he1];exact hv.logd (y:={x with g:=ra.2.1,down:=true}) (Hp.le_trans hR4 hRp) ⟨rfl,rfl⟩ (hva2.mono hRp),by rw[hAs];simp[Xo,QY,he1]⟩
     rintro r R5 L' hR5 ⟨he0,rfl⟩
     have hx1:NIn (k+1) {x with g:=ra.2.1}:=by rw[hra,hO (by rw[<-hra];exact he0)];exact hx.add hdb hdl
     have hR35:=Hp.le_trans hR4 hR5
     have hv1:NOk R5 (v.logd u2 va2) {x with g:=ra.2.1}:=hv.logd (y:={x with g:=ra.2.1}) hR35 ⟨rfl,rfl⟩ (hva2.mono hR5)
     try simp only[cB]
     refine Qd ?_
     refine k25 ?_
     refine cE [0,3,12] ?_
     refine QG ?_
     refine Jn hJ21 (({x with g:=ra.2.1},v.logd u2 va2,ra.2.2,R5)) (⟨hx1,hv1,hR35,by rw[hAs];simp[Xo,QY,he0]⟩)
  ·try simp only[dx]at hc89
   refine QG ?_
   refine Jn hJ21 ((x,v,D,R)) (⟨hx.le Om,hv,Hp.le_refl _,by rw[hnot,t9 (by rw[hfk,List.drop_of_length_le (by(try simp at hc89);omega)];rfl)]⟩)
 refine cS λ_ k26=>?_
 refine Qc ?_
 refine Pm ?_
 refine Pa (Qe rfl) ?_
 refine Pa (Ga underlying109 sizeOf55) ?_
 refine Pa (La Zz) ?_
 refine Pa (Ca call25 (jT b.l (some ⟨b.d,0,none⟩) v.va x.g)) ?_
 refine Pm ?_
 refine Pa (Ql rfl rfl) ?_
 refine Pa (Ql rfl rfl) ?_
 refine Pa (Ql rfl rfl) ?_
 refine Ps ?_
 refine Ps ?_
 refine Ps ?_
 refine Qd ?_
 refine k26 ?_
 refine cS λ_ k27=>?_
 refine Qc ?_
 refine Pm ?_
 refine Pm ?_
 refine Pa (QR rfl rfl) ?_
 refine Qd ?_
 refine k27 ?_
 refine Qi rfl (λhc33=>?_) (λhc33=>?_)
 ·have f1:m.index<x.g.base:=by simpa using hc33
  refine cS λ_ k29=>?_
  refine cS λ_ k30=>?_
  refine Qc ?_
  refine Pm ?_
  refine Pa (QV underlying76 rfl) ?_
  refine Pa ((XE underlying3 underlying36 rfl (by(simp only[IntKind.min,IntKind.max,IntKind.signed,IntKind.bits,Bool.false_eq_true,ite_false,ite_true];omega)))) ?_
  refine Pm ?_
  refine Pm ?_
  refine Pa ((yg rfl rfl Om)) ?_
  refine Pa (QR rfl rfl) ?_
  refine Qd ?_
  refine k30 ?_
  refine cE [0,3,4,5,6,40] ?_
  refine Qi rfl (λhc40=>?_) (λhc40=>?_)
  ·have f2:(m.es.length:Int)<x.g.base-m.index:=by(try simp at hc40);omega
   refine cS λ_ k32=>?_
   refine Qc ?_
   refine Pm ?_
   refine Pa (Lb Yl) ?_
   refine Pm ?_
   refine Ra call97 (jY b v x m (.slice qe m.es.length ce) _ _ hv.out hv.vo Om hveo) ?_
   rintro r R2 L' hR2 ⟨vo,css,hels,hvo2,rfl⟩
   try simp only[cB]
   refine Qd ?_
   refine k32 ?_
   refine cE [] ?_
   refine Qg ?_
   refine r_ ?_
   apply qs results98 .nil _ (XA b (v.sent vo css) (x.answer m _ _) D) (by first|exact Hp.le_refl _|assumption) rfl
   case hp=>unfold qJ;first|(rw[if_pos ⟨f1,f2⟩];exact⟨rfl,_,hv.sent (y:=x.answer m true x.g.base) hR2 ⟨rfl,rfl⟩ hels hvo2,rfl⟩)|(rw[if_neg (λh=>f1 h.1),if_pos ⟨f1,f4⟩];exact⟨rfl,_,hv.sent (y:=x.answer m false (min x.g.last (max m.index 1-1))) hR2 ⟨rfl,rfl⟩ hels hvo2,rfl⟩)
   case hS=>exact Qw
  ·have f2:¬(m.es.length:Int)<x.g.base-m.index:=by(try simp at hc40);omega
   refine Qh ?_
   refine k29 ?_
   refine dW ?_
   have hsub:=hve.sub (a:=(x.g.base-m.index).toNat) (b:=m.es.length) Om Om
   rw[List.take_of_length_le Si]at hsub
   have hA1:=hH (x:=x) (D:=D) (m:=m) (λh=>f2 h.2) (λh=>h.1 f1)
   rw[show x.cutM m=(x.g.base,m.es.drop (x.g.base-m.index).toNat)by unfold ND.cutM;rw[if_pos f1]]at hA1
   refine Qa (Qf rfl) ?_
   refine Qa (Qf rfl) ?_
   refine Qa (Qf rfl) ?_
   refine Qa (Qf rfl) ?_
   refine Qa ((yg rfl rfl Om)) ?_
   refine Qa ((qu (l:=(x.g.base-m.index).toNat) (h:=m.es.length) underlying76 sizeOf93 rfl ⟨.u64,by rw[show(((x.g.base-m.index).toNat:Nat):Int)=x.g.base-m.index by omega];rfl⟩ rfl Om)) ?_
   refine Qa (Xs rfl) ?_
   refine Qa (Xs rfl) ?_
   refine Xj ?_
   refine qP hJ11 ((x.g.base,m.es.drop (x.g.base-m.index).toNat,_)) (⟨by unfold ND.cutM;rw[if_pos f1],hsub,hA1⟩) (eC rfl (eC rfl (eC rfl (eC rfl eN)))) rfl Qw
 ·have f1:¬m.index<x.g.base:=by simpa using hc33
  refine cS λ_ k33=>?_
  refine Qc ?_
  refine Pm ?_
  refine Pa (Qe rfl) ?_
  refine Pa (Ga underlying109 sizeOf55) ?_
  refine Pa (La Zz) ?_
  refine Pm ?_
  refine Pa (Ca call100 (aR b.l (some ⟨b.d,0,none⟩) v.va x.g hg hva m.index (by unfold QQ;omega))) ?_
  refine Xx 57 rfl (v':=QI [.int .u64 ((x.g.termAt m.index).getD 0),.bool (x.g.termAt m.index).isSome]) (gR _) ?_
  refine Pm ?_
  refine Pa (Ql rfl rfl) ?_
  refine Pa (Ql rfl rfl) ?_
  refine Ps ?_
  refine Ps ?_
  refine Qd ?_
  refine k33 ?_
  refine cE [0,3,4,5,9,10] ?_
  refine cS λ_ k34=>?_
  refine Qc ?_
  refine Pm ?_
  refine Pa (Xa rfl) ?_
  refine Pm ?_
  refine QM 62 rfl (λhg62=>?_) (λhg62=>?_)
  ·have f3:(x.g.termAt m.index).isSome=false:=by simpa using hg62
   have f4:¬x.g.termAt m.index=some m.logTerm:=termAt_some.2 (.inl f3)
   refine Pk ?_
   refine Pk ?_
   refine Pk ?_
   refine Pk ?_
   refine Pa (Qq rfl rfl) ?_
   refine Qd ?_
   refine k34 ?_
   refine QD rfl ?_
   refine cS λ_ k35=>?_
   refine Qc ?_
   refine Pm ?_
   refine Pa (Qe rfl) ?_
   refine Pa (Ga underlying109 sizeOf55) ?_
   refine Pa (La Zz) ?_
   refine Pa (Ca call60 (Zq b.l (some ⟨b.d,0,none⟩) v.va x.g hg hva)) ?_
   refine Pm ?_
   refine Pa (ee rfl rfl) ?_
   refine Pa ((yg rfl rfl Om)) ?_
   refine Pa (gH rfl rfl) ?_
   refine Ps ?_
   refine Qd ?_
   refine k35 ?_
   refine cE [0,3,11] ?_
   refine cS λ_ k36=>?_
   refine Qc ?_
   refine Pm ?_
   refine Pa (Lb Yl) ?_
   refine Pm ?_
   refine Ra call97 (jY b v x m (.slice qe m.es.length ce) _ _ hv.out hv.vo Om hveo) ?_
   rintro r R2 L' hR2 ⟨vo,css,hels,hvo2,rfl⟩
   try simp only[cB]
   refine Qd ?_
   refine k36 ?_
   refine cE [] ?_
   refine Qg ?_
   refine r_ ?_
   apply qs results98 .nil _ (XA b (v.sent vo css) (x.answer m _ _) D) (by first|exact Hp.le_refl _|assumption) rfl
   case hp=>unfold qJ;first|(rw[if_pos ⟨f1,f2⟩];exact⟨rfl,_,hv.sent (y:=x.answer m true x.g.base) hR2 ⟨rfl,rfl⟩ hels hvo2,rfl⟩)|(rw[if_neg (λh=>f1 h.1),if_pos ⟨f1,f4⟩];exact⟨rfl,_,hv.sent (y:=x.answer m false (min x.g.last (max m.index 1-1))) hR2 ⟨rfl,rfl⟩ hels hvo2,rfl⟩)
   case hS=>exact Qw
  ·have f3:(x.g.termAt m.index).isSome=true:=by simpa using hg62
   refine Pb (Qf rfl) ?_
   refine Pb (Ga underlying117 sizeOf36) ?_
   refine Pb (La QO) ?_
   refine Pb (Yp rfl rfl) ?_
   refine Pa (Qn rfl rfl) ?_
   refine Qd ?_
   refine k34 ?_
   refine Qi rfl (λhc67=>?_) (λhc67=>?_)
   ·first|(have f4:¬x.g.termAt m.index=some m.logTerm:=termAt_some.2 (.inr (by simpa using hc67)))|skip
    refine cS λ_ k38=>?_
    refine Qc ?_
    refine Pm ?_
    refine Pa (Qe rfl) ?_
    refine Pa (Ga underlying109 sizeOf55) ?_
    refine Pa (La Zz) ?_
    refine Pa (Ca call60 (Zq b.l (some ⟨b.d,0,none⟩) v.va x.g hg hva)) ?_
    refine Pm ?_
    refine Pa (ee rfl rfl) ?_
    refine Pa ((yg rfl rfl Om)) ?_
    refine Pa (gH rfl rfl) ?_
    refine Ps ?_
    refine Qd ?_
    refine k38 ?_
    refine cE [0,3,11] ?_
    refine cS λ_ k39=>?_
    refine Qc ?_
    refine Pm ?_
    refine Pa (Lb Yl) ?_
    refine Pm ?_
    refine Ra call97 (jY b v x m (.slice qe m.es.length ce) _ _ hv.out hv.vo Om hveo) ?_
    rintro r R2 L' hR2 ⟨vo,css,hels,hvo2,rfl⟩
    try simp only[cB]
    refine Qd ?_
    refine k39 ?_
    refine cE [] ?_
    refine Qg ?_
    refine r_ ?_
    apply qs results98 .nil _ (XA b (v.sent vo css) (x.answer m _ _) D) (by first|exact Hp.le_refl _|assumption) rfl
    case hp=>unfold qJ;first|(rw[if_pos ⟨f1,f2⟩];exact⟨rfl,_,hv.sent (y:=x.answer m true x.g.base) hR2 ⟨rfl,rfl⟩ hels hvo2,rfl⟩)|(rw[if_neg (λh=>f1 h.1),if_pos ⟨f1,f4⟩];exact⟨rfl,_,hv.sent (y:=x.answer m false (min x.g.last (max m.index 1-1))) hR2 ⟨rfl,rfl⟩ hels hvo2,rfl⟩)
    case hS=>exact Qw
   ·have f4:¬¬x.g.termAt m.index=some m.logTerm:=λh=>by(rcases termAt_some.1 h with h|h<;>first|(rw[f3]at h;cases h;done)|(simp at hc67;exact h hc67))
    have hA2:=hH (x:=x) (D:=D) (m:=m) (λh=>f1 h.1) (λh=>f4 h.2)
    rw[show x.cutM m=(m.index,m.es)by unfold ND.cutM;rw[if_neg f1]]at hA2
    refine Qh ?_
    refine qP hJ11 ((m.index,m.es,_)) (⟨by unfold ND.cutM;rw[if_neg f1],hve,hA2⟩) (eC rfl (eC rfl (eC rfl (eC rfl eN)))) rfl Qw
theorem d6{l:List Qy}(hb:∀e∈l,e.2.length<=100):Yc l<=120*l.length:=by
 induction l with
 |nil=>simp[Yc]
 |cons e l ih=>
  have h1:=ih (λx hx=>hb x (by simp[hx]))
  have h2:=hb e Si
  simp[Yc]at h1|-;omega
def LG.inst(g:LG)(i t:Int)(s:Bs):LG:=if g.termAt i=some t then g.comp i s else g.base0 i t s
theorem nZ{g to:LG}(h:(g.swapD D to).1=0):(g.swapD D to).2.1=to:=by
 unfold LG.swapD at h|-
 split
 ·rfl
 ·rename_i h1;rw[if_neg h1]at h;exact absurd h h1
theorem Au{g:LG}{i:Int}{s:Bs}(h:(g.compD D i s).1=0):(g.compD D i s).2.1=g.comp i s:=by
 unfold LG.compD at h|-
 split at h
 ·cases h
 ·split at h
  ·cases h
  ·rename_i h1 h2
   rw[if_neg h1,if_neg h2];exact nZ h
theorem z9{g:LG}{i:Int}{s:Bs}(h:(g.instD D i t s).1=0):(g.instD D i t s).2.1=g.inst i t s:=by
 unfold LG.instD at h|-
 split at h
 ·cases h
 ·split at h
  ·cases h
  ·rename_i h1 h2
   rw[if_neg h1,if_neg h2]
   unfold LG.inst
   split
   ·rename_i h3;rw[if_pos h3]at h;exact Au h
   ·rename_i h3;rw[if_neg h3]at h;exact nZ h
theorem vh(hx:NIn k x)(i:Int):0<=(x.g.termAt i).getD 0/\(x.g.termAt i).getD 0<=2305843009213693952+k:=by
 unfold LG.termAt
 split
 ·exact hx.baseT
 ·cases h:x.g.at i with
  |none=>simp;omega
  |some e=>exact(hx.all e (LG.at_mem h)).1
theorem NIn.inst{k:Nat}{x:ND}(h:NIn k x){i t:Int}{s:Bs}(hi:0<=i/\i<=100000000000000)(ht:0<=t/\t<=2305843009213693952+k)(hs:s.length<=1000000):NIn k {x with g:=x.g.inst i t s}:=by
 unfold LG.inst
 split
 ·exact⟨h.idn,h.term,h.vote,hi,vh h i,hs,by have:=h.alln;show(x.g.all.drop _).length<=_;simp;omega,λe he=>h.all e (List.mem_of_mem_drop he),h.commit,h.patience,h.peers,h.peer,h.votes,h.out⟩
 ·exact⟨h.idn,h.term,h.vote,hi,ht,hs,by show 0<=_;omega,λe he=>(by cases he),h.commit,h.patience,h.peers,h.peer,h.votes,h.out⟩
theorem NIn.comm(h:NIn k x){c:Int}(hc:0<=c/\c<=150000000000000):NIn k {x with commit:=c}:=
 ⟨h.idn,h.term,h.vote,h.base,h.baseT,h.state,h.alln,h.all,hc,h.patience,h.peers,h.peer,h.votes,h.out⟩
theorem NIn.follows(h:NIn k x)(m:Msg):NIn k (x.follows m):=
 ⟨h.idn,h.term,h.vote,h.base,h.baseT,h.state,h.alln,h.all,h.commit,⟨by show(0:Int)<=0;omega,by show(0:Int)<=_;omega⟩,λhr=>absurd (show(0:Int)=2 from hr) Dc,h.peer,h.votes,h.out⟩
theorem NOk.follows{v:NV}(h:NOk R v x)(m:Msg):NOk R v (x.follows m):=⟨h.va,h.out,h.vm,h.vp,h.vo,λhr=>absurd (show(0:Int)=1 from hr) Dc⟩
theorem A9(b:NB)(v:NV)(x:ND)(D:DK)(m:Msg)(ve:Value)(k n:Nat)(hk:k<=50)(hx:NIn k x)(hv:NOk R v x)(hm:MIn k x.n m)(hve:FrX entE R m.es ve)(hD:D.ok n)(hn:n<=800000000):
   Tri prog 78 [.pointer (some ⟨b.x,0,none⟩),.agg ⟨Xl m ve⟩] R (XA b v x D) (dy b (ZG (x,D) m)) (dz b (ZG (x,D) m)):=by
 have hveo:=hve.one
 have hob:=hx.out
 have hg:=hx.g Om
 have hlb:=LG.last_b hg
 have hidx:=hm.index
 have hlt:=hm.logTerm
 have hco:=hx.commit
 have hbs:=hx.base
 have hle:x.g.last=x.g.base+x.g.all.length:=rfl
 have hfo:=hx.follows m
 have hfv:=hv.follows m
 have hal:=hx.alln
 have hen:=d6 (λe he=>(hx.all e he).2)
 refine To func78 ntmps78 λσ F _ r_ n_ hpan=>?_
 try simp only[cB]
 refine cS λ_ k1=>Qc (Xc (Qo rfl) rfl rfl rfl (λb3=>Qd (k1 (cS λ_ k2=>Qp (cS λ_ k3=>dW (Qa (Ga underlying117 sizeOf36) ?_))))))
 refine Qa (La QO) (Qa (Qf rfl) (Qa (Qe rfl) ?_))
 refine Qa (Ga underlying109 sizeOf55) ?_
 refine Qa (La Zz) ?_
 refine Qa (Ca call24 (ZN b.l (some ⟨b.d,0,none⟩) v.va x.g)) (Qa (QR rfl rfl) (Qa (Xs rfl) (Xj (k3 (Qi rfl (λhc4=>?_) (λhc4=>?_))))))
 ·have f1:m.term<x.g.term:=by simpa using hc4
  have hN:ZG (x,D) m=(true,(x.answer m false 0,D)):=by unfold ZG;rw[if_pos f1]
  refine cS λ_ k5=>Qc (Pm (Pa (Lb Yl) (Ra call97 (jY b v x m ve false 0 hv.out hv.vo Om hveo) ?_)))
  rintro r R2 L' hR2 ⟨vo,css,hels,hvo2,rfl⟩
  try simp only[cB]
  refine Qd (k5 (cE [] (Qg (r_ ?_))))
  refine Er results78 (XA b (v.sent vo css) (x.answer m false 0) D) (by first|exact Hp.le_refl _|assumption) ?_
  rw[hN];exact⟨rfl,_,hv.sent (y:=x.answer m false 0) hR2 ⟨rfl,rfl⟩ hels hvo2,rfl⟩
 ·have f1:¬m.term<x.g.term:=by simpa using hc4
  refine cS λ_ k6=>Qc (Pm (Pa (Qe rfl) (Pa (Ga underlying109 sizeOf3) ?_)))
  refine Pa (La o3) (Pa (QL rfl rfl) (Ps (Qd (k6 (Qi rfl (λhc16=>?_) (λhc16=>?_))))))
  ·have f2:x.role=2:=by simpa using hc16
   have hN:ZG (x,D) m=(true,(x,D)):=by unfold ZG;rw[if_neg f1,if_pos f2]
   refine Qg (r_ (Er results78 (XA b v x D) (by first|exact Hp.le_refl _|assumption) ?_))
   rw[hN];exact⟨rfl,v,hv,rfl⟩
  ·have f2:¬x.role=2:=by simpa using hc16
   refine Qh (k2 (cS λ_ k8=>mG (L:=[QA b3 (Xl m ve) 117]) [0,1,2,3,4,5,6] [7,8,9,10] [11,12,13] ?_))
   refine Wc rfl (Qf rfl) ?_
   refine Wc rfl (Qf rfl) ?_
   refine Wc rfl (Qf rfl) ?_
   refine Wc rfl (Ga underlying117 sizeOf3) ?_
   refine Wc rfl (La o3) ?_
   refine Wc rfl (Qe rfl) ?_
   refine Wc rfl (Ga underlying109 sizeOf3) (Xq (QT rfl ?_))
   try simp only[cC]
   refine Sa o3 ?_
   refine QU QB Qw (QT rfl ?_)
   try simp only[cC]
   refine Pa (Qe rfl) (QU QB Qw (QT rfl ?_))
   try simp only[cC]
   refine Pa (Ga underlying109 sizeOf3) (QU QB Qw (QT rfl ?_))
   try simp only[cC]
   refine Sa o3 ?_
   refine QU QB Qw (Xt ?_)
   try simp only[cC]
   refine Pa (Qe rfl) (Pa (Ga underlying109 sizeOf3) (Sa o3 (Qd (k8 (cE [0,3] (cS λ_ k9=>cS λ_ k10=>Qc ?_))))))
   refine Pa (Ga underlying117 sizeOf3) (Pa (La o3) (Pa (QL rfl rfl) (Qd (k10 (Qi rfl (λhc35=>?_) (λhc35=>?_))))))
   ·have f3:m.kind=2:=by simpa using hc35
    have hN:ZG (x,D) m=qJ (x.follows m,D) m:=by unfold ZG;rw[if_neg f1,if_neg f2,if_pos f3]
    refine cS λ_ k12=>Qc (Pm (Pa (Lb Yl) (XW (Qo rfl) rfl call98 rfl (FQ b v (x.follows m) D m ve k n hk hfo hfv hm hve hD hn) Za (λch Rp Lp hRp hpp=>?_) ?_)))
    · obtain⟨hF,rfl,v3,hv3,rfl⟩:=hpp
      try simp only[cB]
      exact hpan _ _ _ _ (Zm _ (XA b v3 (qJ (x.follows m,D) m).2.1 (qJ (x.follows m,D) m).2.2) (by first|exact Hp.le_refl _|assumption|exact Hp.le_trans ‹_› ‹_›) rfl Qw ⟨by rw[hN];exact hF,rfl,v3,by rw[hN];exact hv3,by rw[hN]⟩)
    rintro r R8 L' hR8 ⟨hF,v3,hv3,rfl⟩
    try simp only[cB]
    refine Qd (k12 (cE [] (Qg (r_ ?_))))
    refine Er results78 (XA b v3 (qJ (x.follows m,D) m).2.1 (qJ (x.follows m,D) m).2.2) (by first|exact Hp.le_refl _|assumption) ?_
    rw[hN];exact⟨hF,v3,hv3,rfl⟩
   ·have f3:¬m.kind=2:=by simpa using hc35
    have hN:ZG (x,D) m=ad (x.follows m,D) m:=by unfold ZG;rw[if_neg f1,if_neg f2,if_neg f3]
    refine Qh (k9 (XN λK13 hK13=>?_))
    have hJ10:∀(x9:ND×NV×DK×Hp),NIn (k+1) x9.1/\NOk x9.2.2.2 x9.2.1 x9.1/\R.le x9.2.2.2/\ZG (x,D) m=(true,(x9.1.answer m true x9.1.commit,x9.2.2.1))->EJ ⟨prog,71,σ⟩ K13 [(0,.pointer (some ⟨b.x,0,none⟩)),(3,.pointer (some ⟨b3,0,none⟩))] x9.2.2.2 (QA b3 (Xl m ve) 117::Xk b x9.2.1 x9.1::Yo b x9.2.1 x9.1::Xg b.d x9.2.1.u x9.2.2.1::Xf x9.2.1.u x9.2.2.1::Zy x9.2.1 x9.1::za x9.2.1.vm x9.1.votes::Yu x9.2.1 x9.1::F):=by
     rintro⟨y,v2,D2,R2⟩ ⟨hy,hv2,hR2,hF⟩
     try dsimp only
     dsimp only at hy hv2 hR2 hF
     have hyo:=hy.out
     refine hK13 _ _ _ (mG (L:=[QA b3 (Xl m ve) 117,Xk b v2 y]) [0,1,2,3,4,5] [] [6] ?_)
     refine Wc rfl (Qf rfl) ?_
     refine Wc rfl (Lb Yl) ?_
     refine Wc rfl (Qf rfl) ?_
     refine Wc rfl (Qe rfl) ?_
     refine Wc rfl (Ga underlying109 sizeOf36) ?_
     refine Wc rfl (La QO) (Xq (Xt ?_))
     try simp only[cC]
     refine Ra call97 (jY b v2 y m ve true y.commit hv2.out hv2.vo Om hveo) ?_
     rintro r R6 L' hR6 ⟨vo,css,hels,hvo2,rfl⟩
     have hR26:=Hp.le_trans hR2 hR6
     try simp only[cB]
     refine Qd (n_ (Et results78 (XA b (v2.sent vo css) (y.answer m true y.commit) D2) (by first|exact Hp.le_refl _|assumption) ?_))
     rw[hF];exact⟨rfl,_,hv2.sent (y:=y.answer m true y.commit) hR6 ⟨rfl,rfl⟩ hels hvo2,rfl⟩
    refine cS λ_ k14=>dW (Qa (Ga underlying117 sizeOf36) ?_)
    refine Qa (La QO) (Qa (Qf rfl) (Qa (Qe rfl) ?_))
    refine Qa (Ga underlying109 sizeOf36) ?_
    refine Qa (La QO) ?_
    refine Qa (XG rfl rfl) (Xj (k14 ?_))
    refine cE [0,3,45] ?_
    refine Qi rfl (λhc45=>?_) (λhc45=>?_)
    ·have f4:m.index>x.commit:=by(try simp at hc45);omega
     obtain⟨ra,hra⟩:∃r,r=x.g.instD D m.index m.logTerm m.state:=⟨_,rfl⟩
     have hS:ad (x.follows m,D) m=Xo (QY (x.follows m,D) ra) λs=>(true,({s.1 with commit:=m.index}.answer m true m.index,s.2)):=by unfold ad;rw[if_pos (show m.index>(x.follows m).commit from f4),hra];rfl
     rw[hS]at hN
     refine cS λ_ k16=>mG (L:=[QA b3 (Xl m ve) 117,Xk b v (x.follows m)]) [0,1,2,3,4,5,6,7,8,9,10] [11] [12] ?_
     refine Wc rfl (Qf rfl) ?_
     refine Wc rfl (Qf rfl) ?_
     refine Wc rfl (Qe rfl) ?_
     refine Wc rfl (Ga underlying109 sizeOf55) ?_
     refine Wc rfl (La Zz) ?_
     refine Wc rfl (Ga underlying117 sizeOf36) ?_
     refine Wc rfl (La QO) ?_
     refine Wc rfl (Ga underlying117 sizeOf36) ?_
     refine Wc rfl (La QO) ?_
     refine Wc rfl (Ga underlying117 sizeOf9) ?_
     refine Wc rfl (La o9) (Xq (QT rfl ?_))
     try simp only[cC]
     refine Ra call99 (rE b.l b.d v.va v.u x.g D n m.index m.logTerm m.state hg Om (by unfold QQ;omega) hv.va hm.state Om Om hD) ?_
     rintro r R4 L' hR4 ⟨rfl,u2,va2,hva2,rfl⟩
     rw[<-hra]at hva2|-
     try simp only[cB]
     refine QU QB Qw (Xt ?_)
     try simp only[cC]
     refine XW (Qo rfl) rfl call74 rfl (bY b (v.logd u2 va2) (x.follows m) _) Za (λch Rp Lp hRp hpp=>?_) ?_
     · obtain⟨he1,rfl,rfl⟩:=hpp
       try simp only[cB]
       exact hpan _ _ _ _ (Zm _ (XA b (v.logd u2 va2) {(x.follows m)with g:=ra.2.1,down:=true} ra.2.2) (by first|exact Hp.le_refl _|assumption|exact Hp.le_trans ‹_› ‹_›|exact Hp.le_trans hR4 hRp) rfl Qw ⟨by rw[hN];simp[Xo,QY,he1],rfl,v.logd u2 va2,by rw[hN];simp only[Xo,QY,if_neg he1];exact hfv.logd (y:={(x.follows m)with g:=ra.2.1,down:=true}) (Hp.le_trans hR4 hRp) ⟨rfl,rfl⟩ (hva2.mono hRp),by rw[hN];simp[Xo,QY,he1]⟩)
     rintro r R5 L' hR5 ⟨he0,rfl⟩
     have hx1:NIn (k+1) {(x.follows m)with g:=ra.2.1,commit:=m.index}:=by rw[hra,z9 (by rw[<-hra];exact he0)];exact((hfo.inst hidx hlt hm.state).comm Om).le Om
     have hR45:=Hp.le_trans hR4 hR5
     have hv1:NOk R5 (v.logd u2 va2) {(x.follows m)with g:=ra.2.1,commit:=m.index}:=hfv.logd (y:={(x.follows m)with g:=ra.2.1,commit:=m.index}) hR45 ⟨rfl,rfl⟩ (hva2.mono hR5)
     try simp only[cB]
     refine Qd (k16 (Qc (Pm (Pa (Ga underlying117 sizeOf36) (Pa (La QO) (Pa (Qe rfl) (Pa (Ga underlying109 sizeOf36) ?_)))))))
     refine Sa QO ?_
     refine Qd (Jn hJ10 (({(x.follows m)with g:=ra.2.1,commit:=m.index},v.logd u2 va2,ra.2.2,R5)) (⟨hx1,hv1,hR45,by rw[hN];simp[Xo,QY,he0]⟩))
    ·have f4:¬m.index>x.commit:=by(try simp at hc45);omega
     have hS:ad (x.follows m,D) m=(true,((x.follows m).answer m true x.commit,D)):=by unfold ad;rw[if_neg (show¬m.index>(x.follows m).commit from f4)];rfl
     rw[hS]at hN
     refine Qh (Jn hJ10 ((x.follows m,v,D,R)) (⟨hfo.le Om,hfv,Hp.le_refl _,hN⟩))
structure MIm (k:Nat) (m:Msg):Prop where
 term:0<=m.term/\m.term<=2305843009213693952+k
 index:0<=m.index/\m.index<=100000000000000
 logTerm:0<=m.logTerm/\m.logTerm<=2305843009213693952+k
 commit:0<=m.commit/\m.commit<18446744073709551616
 es:m.es.length<=20/\∀e∈m.es,(0<=e.1/\e.1<=2305843009213693952+k)/\e.2.length<=100
 state:m.state.length<=1000000
theorem MIm.to(h:MIm k m)(hf:0<=m.frm/\m.frm<n)(hk:k<=j):MIn j n m:=MIn.le (k:=k) ⟨hf,h.term,h.index,h.logTerm,h.commit,h.es,h.state⟩ hk
theorem NIn.newTerm(h:NIn k x):NIn k x.newTerm:=
 ⟨h.idn,h.term,h.vote,h.base,h.baseT,h.state,h.alln,h.all,h.commit,h.patience,λhr=>absurd (show(0:Int)=2 from hr) Dc,h.peer,h.votes,h.out⟩
theorem NOk.newTerm{v:NV}(h:NOk R v x):NOk R v x.newTerm:=⟨h.va,h.out,h.vm,h.vp,h.vo,λhr=>absurd (show(0:Int)=1 from hr) Dc⟩
theorem DK.ok_le{m:Nat}(h:D.ok n)(hm:n<=m):D.ok m:=⟨h.1,by have:=h.2.1;omega,h.2.2⟩
theorem uc (b:NB) (v:NV) (x:ND) (D:DK) (m:Msg) (ve:Value) (k n bX bM:Nat) (hk:k<=40) (hx:NIn k x) (hv:NOk R v x) (hm:MIm k m) (hve:FrX entE R m.es ve) (hD:D.ok n) (hn:n<=700000000):
   Tri prog 73 [.pointer (some ⟨bM,0,none⟩),.pointer (some ⟨bX,0,none⟩)] R (QA bX [.pointer (some ⟨b.x,0,none⟩)] 56::QA bM (Xl m ve) 117::XA b v x D) (dy b (Xz (x,D) m)) (dz b (Xz (x,D) m)):=by
 have hg:=hx.g Om
 have hmt:=hm.term
 refine To func73 ntmps73 λσ F _ r_ n_ hpan=>?_
 try simp only[cB]
 refine cS λ_ k1=>?_
 refine cS λ_ k2=>?_
 refine dW ?_
 refine Qa (Ga underlying117 sizeOf3) ?_
 refine Qa (La o3) ?_
 refine Qa (La XH) ?_
 refine Qa (Qe rfl) ?_
 refine Qa (Ga underlying109 sizeOf3) ?_
 refine Qa (La o3) ?_
 refine Qa (Yp rfl rfl) ?_
 refine Qa (Qf rfl) ?_
 refine ZM 9 rfl (λhg9=>?_) (λhg9=>?_)
 ·have f0:¬m.to=x.id\/m.frm=x.id\/m.frm<0\/m.frm>=x.n:=.inl (by simpa using hg9)
  refine Qk ?_
  refine Qk ?_
  refine Qk ?_
  refine Qk ?_
  refine Qk ?_
  refine Qk ?_
  refine Qk ?_
  refine Qa (Qq rfl rfl) ?_
  refine Qa (Qf rfl) ?_
  refine Qk ?_
  refine Qk ?_
  refine Qk ?_
  refine Qa (Qq rfl rfl) ?_
  refine Qa (Qf rfl) ?_
  refine Qk ?_
  refine Qk ?_
  refine Qk ?_
  refine Qk ?_
  refine Qk ?_
  refine Qk ?_
  refine Qk ?_
  refine Qa (Qq rfl rfl) ?_
  refine Xj ?_
  refine k2 ?_
  refine cE [0,1,31] ?_
  refine QD rfl ?_
  refine Qg ?_
  refine r_ ?_
  refine Er results73 (XA b v x D) (by first|exact Hp.le_refl _|assumption) ?_
  rw[show Xz (x,D) m=(true,(x,D))by unfold Xz;rw[if_pos f0]];exact⟨rfl,v,hv,rfl⟩
 ·have f1:m.to=x.id:=by simpa using hg9
  refine Qb (Ga underlying117 sizeOf3) ?_
  refine Qb (La o3) ?_
  refine Qb (La XH) ?_
  refine Qb (Qe rfl) ?_
  refine Qb (Ga underlying109 sizeOf3) ?_
  refine Qb (La o3) ?_
  refine Qb (QL rfl rfl) ?_
  refine Qa (Qn rfl rfl) ?_
  refine Qa (Qf rfl) ?_
  refine ZM 18 rfl (λhg18=>?_) (λhg18=>?_)
  ·first|(have f0:¬m.to=x.id\/m.frm=x.id\/m.frm<0\/m.frm>=x.n:=.inr (.inl (by simpa using hg18)))|skip
   refine Qk ?_
   refine Qk ?_
   refine Qk ?_
   refine Qa (Qq rfl rfl) ?_
   refine Qa (Qf rfl) ?_
   refine Qk ?_
   refine Qk ?_
   refine Qk ?_
   refine Qk ?_
   refine Qk ?_
   refine Qk ?_
   refine Qk ?_
   refine Qa (Qq rfl rfl) ?_
   refine Xj ?_
   refine k2 ?_
   refine cE [0,1,31] ?_
   refine QD rfl ?_
   refine Qg ?_
   refine r_ ?_
   refine Er results73 (XA b v x D) (by first|exact Hp.le_refl _|assumption) ?_
   rw[show Xz (x,D) m=(true,(x,D))by unfold Xz;rw[if_pos f0]];exact⟨rfl,v,hv,rfl⟩
  ·first|(have f2:¬m.frm=x.id:=by simpa using hg18)|skip
   refine Qb (Ga underlying117 sizeOf3) ?_
   refine Qb (La o3) ?_
   refine Qb (QR rfl rfl) ?_
   refine Qa (Qn rfl rfl) ?_
   refine Qa (Qf rfl) ?_
   refine ZM 23 rfl (λhg23=>?_) (λhg23=>?_)
   ·first|(have f0:¬m.to=x.id\/m.frm=x.id\/m.frm<0\/m.frm>=x.n:=.inr (.inr (.inl (by simpa using hg23))))|skip
    refine Qk ?_
    refine Qk ?_
    refine Qk ?_
    refine Qk ?_
    refine Qk ?_
    refine Qk ?_
    refine Qk ?_
    refine Qa (Qq rfl rfl) ?_
    refine Xj ?_
    refine k2 ?_
    refine QD rfl ?_
    refine Qg ?_
    refine r_ ?_
    refine Er results73 (XA b v x D) (by first|exact Hp.le_refl _|assumption) ?_
    rw[show Xz (x,D) m=(true,(x,D))by unfold Xz;rw[if_pos f0]];exact⟨rfl,v,hv,rfl⟩
   ·first|(have f3:¬m.frm<0:=by simpa using hg23)|skip
    refine Qb (Ga underlying117 sizeOf3) ?_
    refine Qb (La o3) ?_
    refine Qb (La XH) ?_
    refine Qb (Qe rfl) ?_
    refine Qb (Ga underlying109 sizeOf3) ?_
    refine Qb (La o3) ?_
    refine Qb (ZP rfl rfl) ?_
    refine Qa (Qn rfl rfl) ?_
    refine Xj ?_
    refine k2 ?_
    refine cE [0,1,31] ?_
    refine Qi rfl (λhc31=>?_) (λhc31=>?_)
    ·first|(have f0:¬m.to=x.id\/m.frm=x.id\/m.frm<0\/m.frm>=x.n:=.inr (.inr (.inr (by simpa using hc31))))|skip
     refine Qg ?_
     refine r_ ?_
     refine Er results73 (XA b v x D) (by first|exact Hp.le_refl _|assumption) ?_
     rw[show Xz (x,D) m=(true,(x,D))by unfold Xz;rw[if_pos f0]];exact⟨rfl,v,hv,rfl⟩
    ·have f4:¬m.frm>=x.n:=by(try simp at hc31);omega
     have f0:¬(¬m.to=x.id\/m.frm=x.id\/m.frm<0\/m.frm>=x.n):=by omega
     have hfr:0<=m.frm/\m.frm<x.n:=by omega
     refine Qh ?_
     refine k1 ?_
     refine XN λK4 hK4=>?_
     have hJ4:∀(x9:ND×NV×DK×Hp),NIn (k+1) x9.1/\NOk x9.2.2.2 x9.2.1 x9.1/\R.le x9.2.2.2/\Xz (x,D) m=YB (x9.1,x9.2.2.1) m/\x9.1.n=x.n/\x9.2.2.1.ok (n+44)->EJ ⟨prog,78,σ⟩ K4 [(0,.pointer (some ⟨bM,0,none⟩)),(1,.pointer (some ⟨bX,0,none⟩))] x9.2.2.2 (QA bX [.pointer (some ⟨b.x,0,none⟩)] 56::QA bM (Xl m ve) 117::Xk b x9.2.1 x9.1::Yo b x9.2.1 x9.1::Xg b.d x9.2.1.u x9.2.2.1::Xf x9.2.1.u x9.2.2.1::Zy x9.2.1 x9.1::za x9.2.1.vm x9.1.votes::Yu x9.2.1 x9.1::F):=by
      rintro⟨y,v2,D2,R2⟩ ⟨hy,hv2,hR2,hF,hyn,hD2⟩
      try dsimp only
      dsimp only at hy hv2 hR2 hF hyn hD2
      have hmy:MIn (k+1) y.n m:=hm.to (by rw[hyn];exact hfr) Om
      have hve2:=hve.mono hR2
      refine hK4 _ _ _ ?_
      refine cS λ_ k5=>?_
      refine Qc ?_
      refine Pa (Ga underlying117 sizeOf3) ?_
      refine Pa (La o3) ?_
      refine Qd ?_
      refine k5 ?_
      refine Qp ?_
      refine cS λ_ k6=>?_
      refine Qc ?_
      refine Pa (QL rfl rfl) ?_
      refine Ps ?_
      refine Qd ?_
      refine k6 ?_
      refine Qi rfl (λhc57=>?_) (λhc57=>?_)
      ·have e0:m.kind=0:=by simpa using hc57
       have hK:YB (y,D2) m=ZY (y,D2) m:=by unfold YB;rw[if_pos e0]
       refine Qc ?_
       refine Pa (La XH) ?_
       refine Pa ((Lm (vs:=Xl m ve) Yl)) ?_
       refine XW (Qo rfl) rfl call76 rfl (Da b v2 y D2 m ve (k+1) (n+44) Om hy hv2 hmy hve2 hD2 Om) Za (λch Rp Lp hRp hpp=>?_) ?_
       · obtain⟨hG,rfl,v3,hv3,rfl⟩:=hpp
         try simp only[cB]
         refine hpan _ _ _ _ ?_
         refine Zm _ (XA b v3 (ZY (y,D2) m).2.1 (ZY (y,D2) m).2.2) (by first|exact Hp.le_refl _|assumption|exact Hp.le_trans ‹_› ‹_›|exact Hp.le_trans hR2 hRp) rfl Qw ?_
         exact⟨by rw[hF,hK];exact hG,rfl,v3,by rw[hF,hK];exact hv3,by rw[hF,hK]⟩
       rintro r R8 L' hR8 ⟨hG,v3,hv3,rfl⟩
       have hR28:=Hp.le_trans hR2 hR8
       try simp only[cB]
       refine Qd ?_
       refine n_ ?_
       refine Et results73 (XA b v3 (ZY (y,D2) m).2.1 (ZY (y,D2) m).2.2) (by first|exact Hp.le_refl _|assumption) ?_
       rw[hF,hK];exact⟨hG,v3,hv3,rfl⟩
      ·have e0:¬m.kind=0:=by simpa using hc57
       refine cS λ_ k8=>?_
       refine Qc ?_
       refine Pa (QL rfl rfl) ?_
       refine Ps ?_
       refine Qd ?_
       refine k8 ?_
       refine Qi rfl (λhc62=>?_) (λhc62=>?_)
       ·have e1:m.kind=1:=by simpa using hc62
        have hK:YB (y,D2) m=YE (y,D2) m:=by unfold YB;rw[if_neg e0,if_pos e1]
        refine Qc ?_
        refine Pa (La XH) ?_
        refine Pa ((Lm (vs:=Xl m ve) Yl)) ?_
        refine XW (Qo rfl) rfl call77 rfl (Bw b v2 y D2 m ve (k+1) (n+44) Om hy hv2 hmy hve2 hD2 Om) Za (λch Rp Lp hRp hpp=>?_) ?_
        · obtain⟨hG,rfl,v3,hv3,rfl⟩:=hpp
          try simp only[cB]
          refine hpan _ _ _ _ ?_
          refine Zm _ (XA b v3 (YE (y,D2) m).2.1 (YE (y,D2) m).2.2) (by first|exact Hp.le_refl _|assumption|exact Hp.le_trans ‹_› ‹_›|exact Hp.le_trans hR2 hRp) rfl Qw ?_
          exact⟨by rw[hF,hK];exact hG,rfl,v3,by rw[hF,hK];exact hv3,by rw[hF,hK]⟩
        rintro r R8 L' hR8 ⟨hG,v3,hv3,rfl⟩
        have hR28:=Hp.le_trans hR2 hR8
        try simp only[cB]
        refine Qd ?_
        refine n_ ?_
        refine Et results73 (XA b v3 (YE (y,D2) m).2.1 (YE (y,D2) m).2.2) (by first|exact Hp.le_refl _|assumption) ?_
        rw[hF,hK];exact⟨hG,v3,hv3,rfl⟩
       ·have e1:¬m.kind=1:=by simpa using hc62
        refine cS λ_ k10=>?_
        refine cS λ_ k11=>?_
        refine Qc ?_
        refine Pa (QL rfl rfl) ?_
        refine Ps ?_
        refine Qd ?_
        refine k11 ?_
        refine Qi rfl (λhc67=>?_) (λhc67=>?_)
        ·first|(have e6:m.kind=2:=by simpa using hc67)|(have e7:m.kind=4:=by simpa using hc67)|skip
         first|(have e2:m.kind=2\/m.kind=4:=.inl (by simpa using hc67))|(have e2:m.kind=2\/m.kind=4:=.inr (by simpa using hc67))|skip
         first|(have hK:YB (y,D2) m=ZG (y,D2) m:=by unfold YB;rw[if_neg e0,if_neg e1,if_pos e2])|skip
         refine Qh ?_
         refine k10 ?_
         refine Qi rfl (λhc67=>?_) (λhc67=>?_)
         ·first|(have e6:m.kind=2:=by simpa using hc67)|(have e7:m.kind=4:=by simpa using hc67)|skip
          first|(have e2:m.kind=2\/m.kind=4:=.inl (by simpa using hc67))|(have e2:m.kind=2\/m.kind=4:=.inr (by simpa using hc67))|skip
          first|(have hK:YB (y,D2) m=ZG (y,D2) m:=by unfold YB;rw[if_neg e0,if_neg e1,if_pos e2])|skip
          refine Qc ?_
          refine Pa (La XH) ?_
          refine Pa ((Lm (vs:=Xl m ve) Yl)) ?_
          refine XW (Qo rfl) rfl call78 rfl (A9 b v2 y D2 m ve (k+1) (n+44) Om hy hv2 hmy hve2 hD2 Om) Za (λch Rp Lp hRp hpp=>?_) ?_
          · obtain⟨hG,rfl,v3,hv3,rfl⟩:=hpp
            try simp only[cB]
            refine hpan _ _ _ _ ?_
            refine Zm _ (XA b v3 (ZG (y,D2) m).2.1 (ZG (y,D2) m).2.2) (by first|exact Hp.le_refl _|assumption|exact Hp.le_trans ‹_› ‹_›|exact Hp.le_trans hR2 hRp) rfl Qw ?_
            exact⟨by rw[hF,hK];exact hG,rfl,v3,by rw[hF,hK];exact hv3,by rw[hF,hK]⟩
          rintro r R8 L' hR8 ⟨hG,v3,hv3,rfl⟩
          have hR28:=Hp.le_trans hR2 hR8
          try simp only[cB]
          refine Qd ?_
          refine n_ ?_
          refine Et results73 (XA b v3 (ZG (y,D2) m).2.1 (ZG (y,D2) m).2.2) (by first|exact Hp.le_refl _|assumption) ?_
          rw[hF,hK];exact⟨hG,v3,hv3,rfl⟩
         ·first|(have e3:¬m.kind=2:=by simpa using hc67)|(have e4:¬m.kind=4:=by simpa using hc67)|skip
          refine cS λ_ k14=>?_
          refine Qc ?_
          refine Pa (QL rfl rfl) ?_
          refine Ps ?_
          refine Qd ?_
          refine k14 ?_
          refine Qi rfl (λhc73=>?_) (λhc73=>?_)
          ·have e5:m.kind=3:=by simpa using hc73
           have hK:YB (y,D2) m=Ya (y,D2) m:=by unfold YB;rw[if_neg e0,if_neg e1,if_neg (λh=>by omega),if_pos e5]
           refine Qc ?_
           refine Pa (La XH) ?_
           refine Pa ((Lm (vs:=Xl m ve) Yl)) ?_
           refine XW (Qo rfl) rfl call79 rfl (sJ b v2 y D2 m ve (k+1) Om hy hv2 hmy hve2) Za (λch Rp Lp hRp hpp=>?_) ?_
           · obtain⟨hG,rfl,v3,hv3,rfl⟩:=hpp
             try simp only[cB]
             refine hpan _ _ _ _ ?_
             refine Zm _ (XA b v3 (Ya (y,D2) m).2.1 (Ya (y,D2) m).2.2) (by first|exact Hp.le_refl _|assumption|exact Hp.le_trans ‹_› ‹_›|exact Hp.le_trans hR2 hRp) rfl Qw ?_
             exact⟨by rw[hF,hK];exact hG,rfl,v3,by rw[hF,hK];exact hv3,by rw[hF,hK]⟩
           rintro r R8 L' hR8 ⟨hG,v3,hv3,rfl⟩
           have hR28:=Hp.le_trans hR2 hR8
           try simp only[cB]
           refine Qd ?_
           refine n_ ?_
           refine Et results73 (XA b v3 (Ya (y,D2) m).2.1 (Ya (y,D2) m).2.2) (by first|exact Hp.le_refl _|assumption) ?_
           rw[hF,hK];exact⟨hG,v3,hv3,rfl⟩
          ·have e5:¬m.kind=3:=by simpa using hc73
           have hK:YB (y,D2) m=(true,(y,D2)):=by unfold YB;rw[if_neg e0,if_neg e1,if_neg (λh=>by omega),if_neg e5]
           refine Qh ?_
           refine n_ ?_
           refine Et results73 (XA b v2 y D2) (by first|exact Hp.le_refl _|assumption) ?_
           rw[hF,hK];exact⟨rfl,v2,hv2,rfl⟩
        ·first|(have e3:¬m.kind=2:=by simpa using hc67)|(have e4:¬m.kind=4:=by simpa using hc67)|skip
         refine Qc ?_
         refine Pa (QL rfl rfl) ?_
         refine Ps ?_
         refine Qd ?_
         refine k10 ?_
         refine cE [0,1,56,67] ?_
         refine Qi rfl (λhc67=>?_) (λhc67=>?_)
         ·first|(have e6:m.kind=2:=by simpa using hc67)|(have e7:m.kind=4:=by simpa using hc67)|skip
          first|(have e2:m.kind=2\/m.kind=4:=.inl (by simpa using hc67))|(have e2:m.kind=2\/m.kind=4:=.inr (by simpa using hc67))|skip
          first|(have hK:YB (y,D2) m=ZG (y,D2) m:=by unfold YB;rw[if_neg e0,if_neg e1,if_pos e2])|skip
          refine Qc ?_
          refine Pa (La XH) ?_
          refine Pa ((Lm (vs:=Xl m ve) Yl)) ?_
          refine XW (Qo rfl) rfl call78 rfl (A9 b v2 y D2 m ve (k+1) (n+44) Om hy hv2 hmy hve2 hD2 Om) Za (λch Rp Lp hRp hpp=>?_) ?_
          · obtain⟨hG,rfl,v3,hv3,rfl⟩:=hpp
            try simp only[cB]
            refine hpan _ _ _ _ ?_
            refine Zm _ (XA b v3 (ZG (y,D2) m).2.1 (ZG (y,D2) m).2.2) (by first|exact Hp.le_refl _|assumption|exact Hp.le_trans ‹_› ‹_›|exact Hp.le_trans hR2 hRp) rfl Qw ?_
            exact⟨by rw[hF,hK];exact hG,rfl,v3,by rw[hF,hK];exact hv3,by rw[hF,hK]⟩
          rintro r R8 L' hR8 ⟨hG,v3,hv3,rfl⟩
          have hR28:=Hp.le_trans hR2 hR8
          try simp only[cB]
          refine Qd ?_
          refine n_ ?_
          refine Et results73 (XA b v3 (ZG (y,D2) m).2.1 (ZG (y,D2) m).2.2) (by first|exact Hp.le_refl _|assumption) ?_
          rw[hF,hK];exact⟨hG,v3,hv3,rfl⟩
         ·first|(have e3:¬m.kind=2:=by simpa using hc67)|(have e4:¬m.kind=4:=by simpa using hc67)|skip
          refine cS λ_ k17=>?_
          refine Qc ?_
          refine Pa (QL rfl rfl) ?_
          refine Ps ?_
          refine Qd ?_
          refine k17 ?_
          refine Qi rfl (λhc73=>?_) (λhc73=>?_)
          ·have e5:m.kind=3:=by simpa using hc73
           have hK:YB (y,D2) m=Ya (y,D2) m:=by unfold YB;rw[if_neg e0,if_neg e1,if_neg (λh=>by omega),if_pos e5]
           refine Qc ?_
           refine Pa (La XH) ?_
           refine Pa ((Lm (vs:=Xl m ve) Yl)) ?_
           refine XW (Qo rfl) rfl call79 rfl (sJ b v2 y D2 m ve (k+1) Om hy hv2 hmy hve2) Za (λch Rp Lp hRp hpp=>?_) ?_
           · obtain⟨hG,rfl,v3,hv3,rfl⟩:=hpp
             try simp only[cB]
             refine hpan _ _ _ _ ?_
             refine Zm _ (XA b v3 (Ya (y,D2) m).2.1 (Ya (y,D2) m).2.2) (by first|exact Hp.le_refl _|assumption|exact Hp.le_trans ‹_› ‹_›|exact Hp.le_trans hR2 hRp) rfl Qw ?_
             exact⟨by rw[hF,hK];exact hG,rfl,v3,by rw[hF,hK];exact hv3,by rw[hF,hK]⟩
           rintro r R8 L' hR8 ⟨hG,v3,hv3,rfl⟩
           have hR28:=Hp.le_trans hR2 hR8
           try simp only[cB]
           refine Qd ?_
           refine n_ ?_
           refine Et results73 (XA b v3 (Ya (y,D2) m).2.1 (Ya (y,D2) m).2.2) (by first|exact Hp.le_refl _|assumption) ?_
           rw[hF,hK];exact⟨hG,v3,hv3,rfl⟩
          ·have e5:¬m.kind=3:=by simpa using hc73
           have hK:YB (y,D2) m=(true,(y,D2)):=by unfold YB;rw[if_neg e0,if_neg e1,if_neg (λh=>by omega),if_neg e5]
           refine Qh ?_
           refine n_ ?_
           refine Et results73 (XA b v2 y D2) (by first|exact Hp.le_refl _|assumption) ?_
           rw[hF,hK];exact⟨rfl,v2,hv2,rfl⟩
     refine cS λ_ k19=>?_
     refine dW ?_
     refine Qa (Ga underlying117 sizeOf36) ?_
     refine Qa (La QO) ?_
     refine Qa (La XH) ?_
     refine Qa (Qe rfl) ?_
     refine Qa (Ga underlying109 sizeOf55) ?_
     refine Qa (La Zz) ?_
     refine Qa (Ca call24 (ZN b.l (some ⟨b.d,0,none⟩) v.va x.g)) ?_
     refine Qa (XG rfl rfl) ?_
     refine Xj ?_
     refine k19 ?_
     refine Qi rfl (λhc39=>?_) (λhc39=>?_)
     ·have f5:m.term>x.g.term:=by(try simp at hc39);omega
      obtain⟨ra,hra⟩:∃r,r=x.g.setTermD D m.term (-1):=⟨_,rfl⟩
      have hN:Xz (x,D) m=Xo (QY (x,D) ra) λs=>YB (s.1.newTerm,s.2) m:=by unfold Xz;rw[if_neg f0,if_pos f5,hra]
      refine cS λ_ k21=>?_
      refine mG (L:=[QA bX [.pointer (some ⟨b.x,0,none⟩)] 56,QA bM (Xl m ve) 117,Xk b v x]) [0,1,2,3,4,5,6] [7] [8] ?_
      refine Wc rfl (La XH) ?_
      refine Wc rfl (La XH) ?_
      refine Wc rfl (Qe rfl) ?_
      refine Wc rfl (Ga underlying109 sizeOf55) ?_
      refine Wc rfl (La Zz) ?_
      refine Wc rfl (Ga underlying117 sizeOf36) ?_
      refine Wc rfl (La QO) ?_
      refine Xq ?_
      refine QT rfl ?_
      try simp only[cC]
      refine Ra call75 (dm b.l b.d v.va v.u x.g D n m.term (-1) hg (by unfold QQ;omega) Om Om hv.va.one hD Om) ?_
      rintro r R4 L' hR4 ⟨rfl,u2,rfl⟩
      rw[<-hra]
      have hall:ra.2.1.all=x.g.all:=by rw[hra];exact iE
      have hDk:ra.2.2.ok (n+44):=by rw[hra];exact sa hD (by unfold QQ;omega) Om
      try simp only[cB]
      refine QU QB Qw ?_
      refine Xt ?_
      try simp only[cC]
      refine XW (Qo rfl) rfl call74 rfl (bY b (v.logd u2 v.va) x _) Za (λch Rp Lp hRp hpp=>?_) ?_
      · obtain⟨he1,rfl,rfl⟩:=hpp
        try simp only[cB]
        refine hpan _ _ _ _ ?_
        refine Zm _ (XA b (v.logd u2 v.va) {x with g:=ra.2.1,down:=true} ra.2.2) (by first|exact Hp.le_refl _|assumption|exact Hp.le_trans ‹_› ‹_›|exact Hp.le_trans hR4 hRp) rfl Qw ?_
        exact⟨by rw[hN];simp[Xo,QY,he1],rfl,v.logd u2 v.va,by rw[hN];simp only[Xo,QY,if_neg he1];exact hv.logd (y:={x with g:=ra.2.1,down:=true}) (Hp.le_trans hR4 hRp) ⟨rfl,rfl⟩ (by show FrX entE Rp ra.2.1.all v.va;rw[hall];exact hv.va.mono (Hp.le_trans hR4 hRp)),by rw[hN];simp[Xo,QY,he1]⟩
      rintro r R5 L' hR5 ⟨he0,rfl⟩
      have hx1:NIn (k+1) (ND.newTerm {x with g:=ra.2.1}):=by rw[hra,lq (by rw[<-hra];exact he0)];exact(hx.set (t:=m.term) (vt:= -1) Om Om).newTerm
      have hR45:=Hp.le_trans hR4 hR5
      have hv1:NOk R5 (v.logd u2 v.va) (ND.newTerm {x with g:=ra.2.1}):=NOk.newTerm (hv.logd (y:={x with g:=ra.2.1}) hR45 ⟨rfl,rfl⟩ (by show FrX entE R5 ra.2.1.all v.va;rw[hall];exact hv.va.mono hR45))
      try simp only[cB]
      refine Qd ?_
      refine k21 ?_
      refine cE [0,1] ?_
      refine Qc ?_
      refine Pa (La XH) ?_
      refine Pa (La XH) ?_
      refine Pa (Qe rfl) ?_
      refine Pa (Ga underlying109 sizeOf3) ?_
      refine Sa o3 ?_
      refine Pa (Qe rfl) ?_
      refine Pa (Ga underlying109 sizeOf3) ?_
      refine Sa o3 ?_
      refine Qd ?_
      refine Jn hJ4 ((ND.newTerm {x with g:=ra.2.1},v.logd u2 v.va,ra.2.2,R5)) (⟨hx1,hv1,hR45,by rw[hN];simp[Xo,QY,he0],rfl,hDk⟩)
     ·have f5:¬m.term>x.g.term:=by(try simp at hc39);omega
      have hN:Xz (x,D) m=YB (x,D) m:=by unfold Xz;rw[if_neg f0,if_neg f5]
      refine Qh ?_
      refine Jn hJ4 ((x,v,D,R)) (⟨hx.le Om,hv,Hp.le_refl _,hN,rfl,DK.ok_le hD Om⟩)
theorem uh(b:NB)(v:NV)(x:ND)(D:DK)(cmd:Bs)(k n bX bC:Nat)(hk:k<=40)(hx:NIn k x)(hv:NOk R v x)(hr:x.role=2)(hc:cmd.length<=100)(hD:D.ok n)(hn:n<=700000000):
  Tri prog 63 [.pointer (some ⟨bX,0,none⟩),.pointer (some ⟨bC,0,none⟩)] R (QA bX [.pointer (some ⟨b.x,0,none⟩)] 56::QA bC [.string (Qs cmd)] 9::XA b v x D) (λr R' L'=>(Xb (x,D) cmd).1=true/\∃v',NOk R' v' (Xb (x,D) cmd).2.1/\L'=XA b v' (Xb (x,D) cmd).2.1 (Xb (x,D) cmd).2.2++[QA bX [.pointer (some ⟨b.x,0,none⟩)] 56,QA bC [.string (Qs cmd)] 9]) (λch R' L'=>(Xb (x,D) cmd).1=false/\ch=[eP]/\∃v',NOk R' v' (Xb (x,D) cmd).2.1/\L'=XA b v' (Xb (x,D) cmd).2.1 (Xb (x,D) cmd).2.2++[QA bX [.pointer (some ⟨b.x,0,none⟩)] 56,QA bC [.string (Qs cmd)] 9]):=by
 refine To func63 ntmps63 λ_ F _ _ n_ hpan=>?_
 try simp only[cB]
 refine Qc (Pa (La XH) (Pa (La o9) (XW (Qo rfl) rfl call64 rfl (sR b v x D cmd k n Om hx hv (hx.peers hr) hc hD Om) Za (λch Rp Lp hRp hpp=>?_) ?_)))
 ·obtain⟨hF,rfl,v2,hv2,rfl⟩:=hpp
  try simp only[cB]
  exact hpan _ _ _ _ (Zm _ (XA b v2 (Xb (x,D) cmd).2.1 (Xb (x,D) cmd).2.2++[QA bX [.pointer (some ⟨b.x,0,none⟩)] 56,QA bC [.string (Qs cmd)] 9]) (by first|exact Hp.le_refl _|assumption|exact Hp.le_trans ‹_› ‹_›) rfl Qw ⟨hF,rfl,v2,hv2,rfl⟩)
 rintro r R8 L' hR8 ⟨hF,v2,hv2,rfl⟩
 try simp only[cB]
 exact Qd (n_ (Et results63 (XA b v2 (Xb (x,D) cmd).2.1 (Xb (x,D) cmd).2.2++[QA bX [.pointer (some ⟨b.x,0,none⟩)] 56,QA bC [.string (Qs cmd)] 9]) hR8 ⟨hF,v2,hv2,rfl⟩))
section
variable{c:Cx}{E:Env}{R:Hp}{L:List Qj}{ty:TypeId}{p:String}{af:Array Edge}{g:Option (Nat×Bool)}
theorem tC{d:Option Tmp}{x:Operand}{t t' u:TypeId}{ms:Array (String×TypeId)}(hT:c.P.underlying t=some (.interface ms))(e1:ev E x=some (.iface u v))(e2:ev E y=some .nilIface):
  Yld c E R L ⟨d,.binOp .neq t x y t',ty,p,af,g⟩ (.bool true):=λa w hf _=>by
 have h:∀d:Nat,(Op.equalIn (d+1) t (.iface u v) .nilIface).run c.P w=.ok false w:=λd=>by simp[Op.equalIn,run_underlying hT]
 have h1:(Op.equalIn Op.maxDepth t (.iface u v) .nilIface).run c.P w=.ok false w:=h (Op.maxDepth-1)
 simp[execOp,hf.ev e1,hf.ev e2,eqGuard,binOp,Op.equal,h1,Oper.quietUpon]
theorem rm{d:Option Tmp}{x:Operand}{t t':TypeId}{ms:Array (String×TypeId)}(hT:c.P.underlying t=some (.interface ms))(e1:ev E x=some .nilIface):
  Yld c E R L ⟨d,.binOp .neq t x (.const .nilIface) t',ty,p,af,g⟩ (.bool false):=λa w hf _=>by
 have h:∀d:Nat,(Op.equalIn (d+1) t .nilIface .nilIface).run c.P w=.ok true w:=λd=>by simp[Op.equalIn,run_underlying hT]
 have h1:(Op.equalIn Op.maxDepth t .nilIface .nilIface).run c.P w=.ok true w:=h (Op.maxDepth-1)
 simp[execOp,hf.ev e1,hf.ev (x:=.const .nilIface) rfl,eqGuard,binOp,Op.equal,h1,Oper.quietUpon]
theorem mc{d:Option Tmp}{x:Operand}{t u:TypeId}{b:Bool}{r:Value}(hr:∀w,(Instr.typeAssert v t u b).run c.P w=.ok r w)(e1:ev E x=some v):
  Yld c E R L ⟨d,.typeAssert x t u b,ty,p,af,g⟩ r:=λa w hf _=>by
 simp[execOp,hf.ev e1,hr w,Oper.quietUpon]
theorem Bf{x:Code}(h:CJ c x Q E R L)(hf:Fr c.n E a)(hs:Sat c.σ R L w):x.wp c.P Q a w:=h a w hf hs
end
theorem z5(b4:Nat){v0:Value}(hs:Sat σ R (QA b4 [v0] 98::L) w):
  CallsD prog 86 ⟨[.pointer (some ⟨b4,0,none⟩)]⟩ (.panicking [eP]) w
   (λe u' w'=>(∃v,e=.returned v)/\settle u'=.returning/\Sat σ R (QA b4 [.slice none 0 0] 98::L) w'):=by
 refine callsD_of_wpS func86 rfl (λc0 cs hu=>?_)
 rw[show f86.ntmps=15 from rfl]
 have hf0:=Fr.start (n:=15) (args:=[.pointer (some ⟨b4,0,none⟩)]) rfl
 generalize ({tmps:=_,defers:=[]}:Act)=a at hf0|-
 have hrec:aN (c0::cs)=(.iface 156 (.agg ⟨[]⟩),{c0 with mode:=.panicking [⟨.iface 156 (.agg ⟨[]⟩),true,false⟩]}::cs):=by
  simp only[aN,recoverD,hu,eP]
 refine rR hf0 rfl rfl hrec (λa1 hf1=>?_)
 clear hf0
 refine wpS_of_wp (Bf (c:=⟨prog,15,σ⟩) ?_ hf1 hs)
 refine cS λ_ k1=>Qc (Pm (Pa ((tC underlying20 rfl rfl)) (Qd (k1 (QD rfl (cS λ_ k2=>cS λ_ k3=>Qc (Pm (Pa ((mc (r:=.tuple ⟨[.agg ⟨[]⟩,.bool true]⟩) (λw=>by kernel_rfl) rfl)) (Pm (Pa (Ql rfl rfl) (Pa (Ql rfl rfl) (QC (Qo rfl) rfl zeroValue156 rfl (λb2=>Sm (vs:=[]) F1 Si (Ps (Qd (k3 (cS λ_ k4=>Qc ?_)))))))))))))))))
 refine Pm (Pa (Xa rfl) ?_)
 refine Qd (k4 (Qt rfl (Qh (k2 ?_))))
 refine Qc ?_
 refine Sa fw ?_
 exact Qd (λa w hf hs=>⟨hf.dfs,_,rfl,.tuple ⟨[]⟩,by unfold results;rw[results86];simp,⟨_,rfl⟩,rfl,hs.sub Qw⟩)
theorem CA(b4:Nat)(hs:Sat σ R L w):
  CallsD prog 86 ⟨[.pointer (some ⟨b4,0,none⟩)]⟩ .returning w
   (λe u' w'=>(∃v,e=.returned v)/\settle u'=.returning/\Sat σ R L w'):=by
 refine callsD_of_wpS func86 rfl (λc0 cs hu=>?_)
 rw[show f86.ntmps=15 from rfl]
 have hf0:=Fr.start (n:=15) (args:=[.pointer (some ⟨b4,0,none⟩)]) rfl
 generalize ({tmps:=_,defers:=[]}:Act)=a at hf0|-
 have hrec:aN (c0::cs)=(.nilIface,c0::cs):=by
  simp only[aN,recoverD,hu]
 have hc0:c0={c0 with mode:=.returning}:=by rw[<-hu]
 refine rR hf0 rfl rfl hrec (λa1 hf1=>?_)
 clear hf0
 refine wpS_of_wp (Bf (c:=⟨prog,15,σ⟩) ?_ hf1 hs)
 exact cS λ_ k1=>Qc (Pm (Pa ((rm underlying20 rfl)) (Qd (k1 (Qt rfl (Qh (λa w hf hs=>⟨hf.dfs,.returning,by rw[<-hc0],.tuple ⟨[]⟩,by unfold results;rw[results86];simp,⟨_,rfl⟩,rfl,hs.sub Qw⟩)))))))
theorem DS(b4:Nat)(v:Value)(hr:fn.results=⟨[.cell 4 98]⟩)(hR:R0.le R)
  (e4:lk E 4=some (.pointer (some ⟨b4,0,none⟩))) (hf:Fr n E a) (hs:Sat σ R (QA b4 [v] 98::(L'++F)) w) (hp:post v R L'):
  kg prog fn (j7 σ R0 F post (λ_ _ _=>False)) {target:=.fn (.func 86) ⟨[.pointer (some ⟨b4,0,none⟩)]⟩,args:= #[]} .normal a w:=
 ⟨hf.dfs,ip Si call86 (CA b4 hs) (λw' hs'=>kz (c:=⟨prog,n,σ⟩) hr (.cons (gN fw e4 (.head _) rfl) .nil) R L' hR rfl (.drop (.refl _)) hp hf hs')⟩
theorem B0(b4:Nat){v0:Value}(hr:fn.results=⟨[.cell 4 98]⟩)(hR:R0.le R)
  (e4:lk E 4=some (.pointer (some ⟨b4,0,none⟩))) (hf:Fr n E a) (hs:Sat σ R (QA b4 [v0] 98::(L'++F)) w) (hp:post (.slice none 0 0) R L'):
  kg prog fn (j7 σ R0 F post (λ_ _ _=>False)) {target:=.fn (.func 86) ⟨[.pointer (some ⟨b4,0,none⟩)]⟩,args:= #[]} (.panic [eP]) a w:=
 ⟨hf.dfs,ip Si call86 (z5 b4 hs) (λw' hs'=>kz (c:=⟨prog,n,σ⟩) hr (.cons (gN fw e4 (.head _) rfl) .nil) R L' hR rfl (.drop (.refl _)) hp hf hs')⟩
theorem FI{Q2:Exit->Act->World->Prop}{l:List Oper}(h:RJ c ops Q l E R L):EJ c (Exit.then (λa w=>wpList c.P ops Q l a w) Q2 .normal) E R L:=h
theorem tR(A:Qj)(L F:List Qj):Split (A::(L++F)) L (A::F):=by
 induction L with
 |nil=>exact .nil _
 |cons B L ih=>exact .cons (.tail (.head _)) ih
def zW(x:ND)(D:DK)(F:Bool×NS):List Msg×NS:=if Xy (x,D)=true then([],(x,D))else if F.1=true then(F.2.1.out,F.2)else([],F.2)
theorem dJ(x:ND)(D:DK)(f:NS->Bool×NS):Xw (x,D) f=zW x D (f ({x with out:=[]},D)):=rfl
@[reducible] def Bn (b : NB) (G : List Msg × NS) (r : Value) (R' : Hp) (L' : List Qj) : Prop := ∃ v', FrX msgE R' G.1 r ∧ NOk R' v' G.2.1 ∧ L' = Yw b v' G.2.1 G.2.2
theorem dG(L:List Qj){N:List Qj}(h:Sub M N):Sub (L++M) (L++N):=by
 induction L with
 |nil=>exact h
 |cons A L ih=>exact zP (.head _) ih
theorem dH(A:Qj)(L F:List Qj):Sub (L++A::F) (A::(L++F)):=zP (Find.mid A L F) (.refl _)
theorem B5{l:List Oper}(hs:Sub L M)(h:RJ c ops Q l E R M):RJ c ops Q l E R L:=λa w hf s=>h a w hf (s.sub hs)
theorem tV(b:NB)(v:NV)(x:ND)(D:DK)(fk:FuncId)(caps:List Value)(Ex Ey:List Qj)(F0:Bool×NS)(hc:∀args w,(callFunc fk args).run prog w=.ok (.enter fk args) w)(hv:NOk R v x)
   (hf:∀v2,NOk R v2 {x with out:=[]}->Tri prog fk caps R (XA b v2 {x with out:=[]} D++Ex) (λr R' L'=>F0.1=true/\∃v',NOk R' v' F0.2.1/\L'=XA b v' F0.2.1 F0.2.2++Ey) (λch R' L'=>F0.1=false/\ch=[eP]/\∃v',NOk R' v' F0.2.1/\L'=XA b v' F0.2.1 F0.2.2++Ey)) (hE:∀F,Sub (Ex++F) (Ey++F)):
   Tri prog 62 [.pointer (some ⟨b.x,0,none⟩),.func (.func fk) ⟨[]⟩ ⟨caps⟩] R (Yw b v x D++Ex) (λr R' L'=>∃v',FrX msgE R' (zW x D F0).1 r/\NOk R' v' (zW x D F0).2.1/\L'=Yw b v' (zW x D F0).2.1 (zW x D F0).2.2++Ey):=by
 have hvN:NOk R (v.sent (.slice none 0 0) []) {x with out:=[]}:=⟨hv.va,Els.nil,hv.vm,hv.vp,rfl,hv.map⟩
 refine nP func62 rfl ntmps62 rfl (λσ F Q hret hend hpan hQ=>?_)
 try simp only[cB]
 refine cS λ_ k1=>?_
 refine Qc ?_
 refine QC (Qo rfl) rfl zeroValue98 rfl (λb4=>?_)
 refine Qd ?_
 refine k1 ?_
 refine cS λ_ k2=>?_
 refine cS λ_ k3=>?_
 refine Qc ?_
 refine Pm ?_
 refine Pa (Ca call37 (yZ b v x D)) ?_
 refine Qd ?_
 refine k3 ?_
 refine Qi rfl (λhc6=>?_) (λhc6=>?_)
 ·have f1:Xy (x,D)=true:=hc6
  have hG:zW x D F0=([],(x,D)):=by unfold zW;rw[if_pos f1]
  refine cS λ_ k5=>?_
  refine gE (M:=QA b4 [.slice none 0 0] 98::(Yw b v x D++(Ey++F))) (zP Qm (dG (Yw b v x D) (hE F))) ?_
  try simp only[cB]
  refine Qc ?_
  refine Sa fw ?_
  refine Qd ?_
  refine k5 ?_
  refine Qg ?_
  refine hret _ _ _ ?_
  apply qs results62 (.cons (gN fw rfl Qm rfl) .nil) _ (Yw b v x D++Ey) (Hp.le_refl _) rfl
  case hp=>rw[hG];exact⟨v,FrX.nil,hv,rfl⟩
  case hS=>exact Qw
 ·have f1:¬Xy (x,D)=true:=by simpa using hc6
  refine Qh ?_
  refine k2 ?_
  refine cS λ_ k6=>?_
  refine Qc ?_
  refine Pm ?_
  refine Pa (Qe rfl) ?_
  refine Pa (Ga underlying109 sizeOf98) ?_
  refine Sa fw ?_
  refine Qd ?_
  refine k6 ?_
  refine pZ (A:=Yu (v.sent (.slice none 0 0) []) {x with out:=[]}) (Yr _ _) ?_
  refine wW hQ rfl rfl ?_
  refine Pm ?_
  refine oA (Qo rfl) rfl rfl hc rfl (hf (v.sent (.slice none 0 0) []) hvN) (pre:=XA b (v.sent (.slice none 0 0) []) {x with out:=[]} D++Ex) (F:=QA b4 [.slice none 0 0] 98::F) ?_ ?_ ?_
  · exact .cons Qm (.cons Qm (.cons Qm (.cons Qm (.cons Qm (.cons Qm (.cons Qm (tR _ _ _)))))))
  · rintro ch Rp Lp hRp ⟨hF1,rfl,v2,hv2,rfl⟩
    have hG:zW x D F0=([],F0.2):=by unfold zW;rw[if_neg f1,if_neg (by rw[hF1];simp)]
    intro a w hf hs
    replace hs:=hs.sub (dH _ _ _)
    refine B0 b4 results62 hRp rfl hf (L':=Yw b v2 F0.2.1 F0.2.2++Ey) (hs.sub Qw) ?_
    rw[hG];exact⟨v2,FrX.nil,hv2,rfl⟩
  · rintro r R' L' hR' ⟨hF1,v2,hv2,rfl⟩
    have hG:zW x D F0=(F0.2.1.out,F0.2):=by unfold zW;rw[if_neg f1,if_pos hF1]
    refine B5 (dH _ _ _) ?_
    try simp only[cB]
    refine Qd ?_
    refine FI ?_
    refine Pm ?_
    refine Pa (Qe rfl) ?_
    refine Pa (Ga underlying109 sizeOf98) ?_
    refine Pa (La fw) ?_
    refine oy fw (Qo rfl) rfl rfl hv2.vo Qm rfl rfl ?_
    refine YC (e:=117) (sz:=10) (n:=F0.2.1.out.length) (v:=v2.vo) (xs:=v2.css.flatten) Qm (λR9 hR9 hfr hxl=>?_)
    have hfx:FrX msgE R9 F0.2.1.out v2.vo:=FrozenS.frx hfr (hv2.out.mono hR9)
    refine Qd ?_
    intro a w hf hs
    refine DS b4 v2.vo results62 (Hp.le_trans hR' hR9) rfl hf (L':=Yw b v2 F0.2.1 F0.2.2++Ey) (hs.sub Qw) ?_
    rw[hG];exact⟨v2,hfx,hv2.mono hR9,rfl⟩
theorem Tri.pre{f:FuncId}{args:List Value}(h:Tri P f args R L post pan)(hs:∀F,Sub (L'++F) (L++F)):Tri P f args R L' post pan:=
 λσ F w s=>h σ F w (s.sub (hs F))
theorem NIn.out0(h:NIn k x):NIn k {x with out:=[]}:=
 ⟨h.idn,h.term,h.vote,h.base,h.baseT,h.state,h.alln,h.all,h.commit,h.patience,h.peers,h.peer,h.votes,by show 0<=_;omega⟩
theorem Dw(b:NB)(v:NV)(x:ND)(D:DK)(k n:Nat)(hk:k<=40)(hx:NIn k x)(hv:NOk R v x)(hD:D.ok n)(hn:n<=700000000):
  Tri prog 50 [.pointer (some ⟨b.x,0,none⟩)] R (Yw b v x D) (Bn b (Xw (x,D) tickN)):=by
 rw[dJ]
 refine To func50 ntmps50 λ_ F _ r_ _ _=>?_
 try simp only[cB]
 refine cS λ_ k1=>Qc (Xc (Qo rfl) rfl rfl rfl (λbX=>Ps (Qd (k1 (cS λ_ k2=>Qc (Pa (La XH) (Pa (Zo rfl rfl) (Ra call62 (tV b v x D 68 [.pointer (some ⟨bX,0,none⟩)] [QA bX [.pointer (some ⟨b.x,0,none⟩)] 56] [] (tickN ({x with out:=[]},D)) call68 hv (λv2 hv2=>Tri.pre (BG b v2 {x with out:=[]} D k n bX hk hx.out0 hv2 hD Om) (λF=>by(repeat(first|exact zR _|(apply zP;focus(repeat(first|exact zH _|apply zT)))|apply zD|exact zA _ _)))) (λF=>by(repeat(first|exact zR _|(apply zP;focus(repeat(first|exact zH _|apply zT)))|apply zD|exact zA _ _)))) ?_))))))))
 rintro r R2 L' hR2 ⟨v2,hr,hv2,rfl⟩
 have hro:=hr.one
 try simp only[cB]
 refine Ps (Qd (k2 (Qg (r_ ?_))))
 apply qs results50 (.cons (QH rfl) .nil) _ (Yw b v2 _ _) hR2 rfl
 case hp=>exact⟨v2,hr,hv2,rfl⟩
 case hS=>exact Qw
theorem vT(b:NB)(v:NV)(x:ND)(D:DK)(m:Msg)(ve:Value)(k n:Nat)(hk:k<=40)(hx:NIn k x)(hv:NOk R v x)(hm:MIm k m)(hve:FrX entE R m.es ve)(hD:D.ok n)(hn:n<=700000000):
  Tri prog 53 [.pointer (some ⟨b.x,0,none⟩),.agg ⟨Xl m ve⟩] R (Yw b v x D) (Bn b (Xw (x,D) (λs=>Xz s m))):=by
 rw[dJ]
 have hveo:=hve.one
 refine To func53 ntmps53 λ_ F _ r_ _ _=>?_
 try simp only[cB]
 refine cS λ_ k1=>Qc (Xc (Qo rfl) rfl rfl rfl (λbX=>Xc (Qo rfl) rfl rfl rfl (λbM=>Ps (Qd (k1 (cS λ_ k2=>Qc (Pa (La XH) (Pa (Zo rfl rfl) (Ra call62 (tV b v x D 73 [.pointer (some ⟨bM,0,none⟩),.pointer (some ⟨bX,0,none⟩)] [QA bX [.pointer (some ⟨b.x,0,none⟩)] 56,QA bM (Xl m ve) 117] [] (Xz ({x with out:=[]},D) m) call73 hv (λv2 hv2=>Tri.pre (uc b v2 {x with out:=[]} D m ve k n bX bM hk hx.out0 hv2 hm hve hD hn) (λF=>by(repeat(first|exact zR _|(apply zP;focus(repeat(first|exact zH _|apply zT)))|apply zD|exact zA _ _)))) (λF=>by(repeat(first|exact zR _|(apply zP;focus(repeat(first|exact zH _|apply zT)))|apply zD|exact zA _ _)))) ?_)))))))))
 rintro r R2 L' hR2 ⟨v2,hr,hv2,rfl⟩
 have hro:=hr.one
 try simp only[cB]
 refine Ps (Qd (k2 (Qg (r_ ?_))))
 apply qs results53 (.cons (QH rfl) .nil) _ (Yw b v2 _ _) hR2 rfl
 case hp=>exact⟨v2,hr,hv2,rfl⟩
 case hS=>exact Qw
theorem Am(hk:k<=90){cmd:Bs}(hx:NIn k x)(hc:cmd.length<=100)(h:(Xb (x,D) cmd).1=true):NIn (k+2) (Xb (x,D) cmd).2.1:=by
 have hterm:=hx.term
 unfold Xb Xo QY at h|-
 dsimp only at h|-
 by_cases he:(x.g.addD D x.g.last [(x.g.term,cmd)]).1=0
 ·simp only[if_pos he,ite_true]at h|-
  rw[hO he,Xe]
  have h1:=hx.add (i:=x.g.last) (m:=[(x.g.term,cmd)]) (λe he=>by simp at he;subst he;exact⟨⟨by omega,by omega⟩,hc⟩) Si
  have h2:=NIn.count Om h1
  refine h2.sends _ ?_
  rw[List.length_map]
  have h3:=h2.idn.2
  have h4:=jz (ND.count {x with g:=x.g.play (.add x.g.last [(x.g.term,cmd)])}).id (ND.count {x with g:=x.g.play (.add x.g.last [(x.g.term,cmd)])}).n
  show(YM _ _).length<=20
  omega
 ·simp only[if_neg he]at h
  simp at h
def XX(s:NS)(cmd:Bs):(Int×Int×List Msg)×NS:=
 if¬s.1.role=2 then((0,0,[]),s)else if Xy (Xw s (λs=>Xb s cmd)).2=true then((0,0,[]),(Xw s (λs=>Xb s cmd)).2)
 else(((Xw s (λs=>Xb s cmd)).2.1.g.last,(Xw s (λs=>Xb s cmd)).2.1.g.term,(Xw s (λs=>Xb s cmd)).1),(Xw s (λs=>Xb s cmd)).2)
theorem DT{f:NS->Bool×NS}(hf:(f ({x with out:=[]},D)).1=true->NIn k (f ({x with out:=[]},D)).2.1)(hl:(f ({x with out:=[]},D)).1=false->(f ({x with out:=[]},D)).2.1.down=true)(h:¬Xy (Xw (x,D) f).2=true):NIn k (Xw (x,D) f).2.1:=by
 rw[dJ]at h|-
 unfold zW at h|-
 by_cases h1:Xy (x,D)=true
 ·rw[if_pos h1]at h;exact absurd h1 h
 ·rw[if_neg h1]at h|-
  by_cases h2:(f ({x with out:=[]},D)).1=true
  ·rw[if_pos h2];exact hf h2
  ·rw[if_neg h2]at h
   have:=hl (by simpa using h2)
   exact absurd (by unfold Xy;rw[this];rfl) h
theorem wo{s:NS}{r:Int×LG×DK}(h:(QY s r).1=false):(QY s r).2.1.down=true:=by
 unfold QY at h|-
 split at h
 ·cases h
 ·rename_i h1;rw[if_neg h1]
theorem w0{r:Bool×NS}{k:NS->Bool×NS}(hr:r.1=false->r.2.1.down=true)(hk:r.1=true->(k r.2).1=false->(k r.2).2.1.down=true)(h:(Xo r k).1=false):(Xo r k).2.1.down=true:=by
 unfold Xo at h|-
 by_cases h1:r.1=true
 ·rw[if_pos h1]at h|-;exact hk h1 h
 ·rw[if_neg h1]at h|-;exact hr h
theorem uH{s:NS}{cmd:Bs}(h:(Xb s cmd).1=false):(Xb s cmd).2.1.down=true:=
 w0 wo (λ_ h=>by cases h) h
theorem v8(b:NB)(v:NV)(x:ND)(D:DK)(cmd:Bs)(k n:Nat)(hk:k<=40)(hx:NIn k x)(hv:NOk R v x)(hc:cmd.length<=100)(hD:D.ok n)(hn:n<=700000000):
  Tri prog 43 [.pointer (some ⟨b.x,0,none⟩),.string (Qs cmd)] R (Yw b v x D)
   (λr R' L'=>∃vl v',r=QI [.int .u64 (XX (x,D) cmd).1.1,.int .u64 (XX (x,D) cmd).1.2.1,vl]/\FrX msgE R' (XX (x,D) cmd).1.2.2 vl/\NOk R' v' (XX (x,D) cmd).2.1/\L'=Yw b v' (XX (x,D) cmd).2.1 (XX (x,D) cmd).2.2):=by
 obtain⟨G,hG⟩:∃G,G=Xw (x,D) (λs=>Xb s cmd):=⟨_,rfl⟩
 refine To func43 ntmps43 λ_ F _ r_ _ _=>?_
 try simp only[cB]
 refine cS λ_ k1=>Qc (Xc (Qo rfl) rfl rfl rfl (λbX=>Xc (Qo rfl) rfl rfl rfl (λbC=>Ps (Ps (Ps (Qd (k1 (cS λ_ k2=>cS λ_ k3=>Qc (Pa (La XH) (Pa (Ca call38 (iN b v x)) (Pa (Yp rfl rfl) (Qd (k3 (Qi rfl (λhc10=>?_) (λhc10=>?_)))))))))))))))
 have f1:¬x.role=2:=by simpa using hc10
 have hP:XX (x,D) cmd=((0,0,[]),(x,D)):=by unfold XX;rw[if_pos f1]
 refine cS λ_ k5=>Qc (Ps (Ps (Ps (Qd (k5 (Qg (r_ (Er results43 (Yw b v x D) (by first|exact Hp.le_refl _|assumption) ?_))))))))
 rw[hP];exact⟨_,v,rfl,FrX.nil,hv,rfl⟩
 have f1:x.role=2:=by simpa using hc10
 refine Qh (k2 (cS λ_ k6=>Qc (Pa (La XH) (Pa (Zo rfl rfl) (Ra call62 (tV b v x D 63 [.pointer (some ⟨bX,0,none⟩),.pointer (some ⟨bC,0,none⟩)] [QA bX [.pointer (some ⟨b.x,0,none⟩)] 56,QA bC [.string (Qs cmd)] 9] [QA bX [.pointer (some ⟨b.x,0,none⟩)] 56,QA bC [.string (Qs cmd)] 9] (Xb ({x with out:=[]},D) cmd) call63 hv (λv2 hv2=>Tri.pre (uh b v2 {x with out:=[]} D cmd k n bX bC hk hx.out0 hv2 f1 hc hD hn) (λF=>by(repeat(first|exact zR _|(apply zP;focus(repeat(first|exact zH _|apply zT)))|apply zD|exact zA _ _)))) (λF=>by(repeat(first|exact zR _|(apply zP;focus(repeat(first|exact zH _|apply zT)))|apply zD|exact zA _ _)))) ?_)))))
 rintro r R2 L' hR2 ⟨v2,hr,hv2,rfl⟩
 have hro:=hr.one
 have hGR:zW x D (Xb ({x with out:=[]},D) cmd)=G:=by rw[hG];rfl
 rw[hGR]at hr hv2|-
 try simp only[cB]
 refine Ps (Qd (k6 (cS λ_ k7=>cS λ_ k8=>Qc (Pa (La XH) (Pa (Ca call37 (yZ b v2 G.2.1 G.2.2)) (Qd (k8 (Qi rfl (λhc15=>?_) (λhc15=>?_)))))))))
 have g1:Xy G.2=true:=hc15
 have hP:XX (x,D) cmd=((0,0,[]),G.2):=by unfold XX;rw[if_neg (by simp[f1]),<-hG,if_pos g1]
 refine cS λ_ k10=>Qc (Ps (Ps (Ps (Qd (k10 (Qg (r_ (Er results43 (Yw b v2 G.2.1 G.2.2) (by first|exact Hp.le_refl _|assumption) ?_))))))))
 rw[hP];exact⟨_,v2,rfl,FrX.nil,hv2,rfl⟩
 have g1:¬Xy G.2=true:=by simpa using hc15
 have hP:XX (x,D) cmd=((G.2.1.g.last,G.2.1.g.term,G.1),G.2):=by unfold XX;rw[if_neg (by simp[f1]),<-hG,if_neg g1]
 have hGi:NIn (k+2) G.2.1:=by rw[hG]at g1|-;exact DT (λh=>Am Om hx.out0 hc h) (λh=>uH h) g1
 have hgG:=hGi.g Om
 refine Qh (k7 (cS λ_ k11=>dW (Qa (La XH) (Qa (Qe rfl) ?_))))
 refine Qa (Ga underlying109 sizeOf55) ?_
 refine Qa (La Zz) ?_
 refine Qa (Ca call60 (Zq b.l (some ⟨b.d,0,none⟩) v2.va G.2.1.g hgG hv2.va)) ?_
 refine Qa (La XH) (Qa (Qe rfl) ?_)
 refine Qa (Ga underlying109 sizeOf55) ?_
 refine Qa (La Zz) ?_
 refine Qa (Ca call24 (ZN b.l (some ⟨b.d,0,none⟩) v2.va G.2.1.g)) (Qa (Qf rfl) (Qa (Xs rfl) (Qa (Xs rfl) (Qa (Xs rfl) (Xj (k11 ?_))))))
 refine cE [4,5,6] (Qg (r_ ?_))
 refine Er results43 (Yw b v2 G.2.1 G.2.2) (by first|exact Hp.le_refl _|assumption) ?_
 rw[hP];exact⟨_,v2,rfl,hr,hv2,rfl⟩
def YV(s:NS)(i:Int)(t:Bs):Int×NS:=
 if Xy s=true then(3,s)else if i>s.1.commit then(1,s)else((s.1.g.compD s.2 i t).1,({s.1 with g:=(s.1.g.compD s.2 i t).2.1},(s.1.g.compD s.2 i t).2.2))
theorem rA(b:NB)(v:NV)(x:ND)(D:DK)(i:Int)(t:Bs)(k n:Nat)(hk:k<=40)(hx:NIn k x)(hv:NOk R v x)(hi:QQ i)(ht:t.length<=1000000)(hD:D.ok n):
  Tri prog 54 [.pointer (some ⟨b.x,0,none⟩),.int .u64 i,.string (Qs t)] R (Yw b v x D)
   (λr R' L'=>r=.int .i64 (YV (x,D) i t).1/\∃v',NOk R' v' (YV (x,D) i t).2.1/\L'=Yw b v' (YV (x,D) i t).2.1 (YV (x,D) i t).2.2):=by
 have hg:=hx.g Om
 have hbs:=hx.base
 have hle:x.g.last=x.g.base+x.g.all.length:=rfl
 have hal:=hx.alln
 have hen:=d6 (λe he=>(hx.all e he).2)
 refine To func54 ntmps54 λ_ F _ r_ _ _=>?_
 try simp only[cB]
 refine cS λ_ k1=>Qc (Ps (Qd (k1 (cS λ_ k2=>Qp (cS λ_ k3=>Qc (Pm (Pa (Ca call37 (yZ b v x D)) (Ps (Qd (k3 (Qi rfl (λhc7=>?_) (λhc7=>?_))))))))))))
 have f1:Xy (x,D)=true:=hc7
 have hP:YV (x,D) i t=(3,(x,D)):=by unfold YV;rw[if_pos f1]
 refine cS λ_ k5=>Qc (Ps (Qd (k5 (Qg (r_ (Er results54 (Yw b v x D) (by first|exact Hp.le_refl _|assumption) ?_))))))
 rw[hP];exact⟨rfl,v,hv,rfl⟩
 have f1:¬Xy (x,D)=true:=by simpa using hc7
 refine cS λ_ k6=>Qc (Pm (Pm (Pa (Qe rfl) (Pa (Ga underlying109 sizeOf36) ?_))))
 refine Pa (La QO) (Pa (XG rfl rfl) (Ps (Qd (k6 (Qi rfl (λhc10=>?_) (λhc10=>?_))))))
 have f2:i>x.commit:=by(try simp at hc10);omega
 have hP:YV (x,D) i t=(1,(x,D)):=by unfold YV;rw[if_neg f1,if_pos f2]
 refine cS λ_ k8=>Qc (Ps (Qd (k8 (Qg (r_ (Er results54 (Yw b v x D) (by first|exact Hp.le_refl _|assumption) ?_))))))
 rw[hP];exact⟨rfl,v,hv,rfl⟩
 have f2:¬i>x.commit:=by(try simp at hc10);omega
 obtain⟨ra,hra⟩:∃r,r=x.g.compD D i t:=⟨_,rfl⟩
 have hP:YV (x,D) i t=(ra.1,({x with g:=ra.2.1},ra.2.2)):=by unfold YV;rw[if_neg f1,if_neg f2,hra]
 refine Qh (k2 (cS λ_ k9=>Qc (Pm (Pa (Qe rfl) (Pa (Ga underlying109 sizeOf55) ?_)))))
 refine Pa (La Zz) (Pm (Pm (Ra call80 (io b.l b.d v.va v.u x.g D n i t hg hi hv.va ht Om Om hD) ?_)))
 rintro r R4 L' hR4 ⟨rfl,u2,va2,hva2,rfl⟩
 rw[<-hra]at hva2|-
 try simp only[cB]
 refine Ps (Qd (k9 (cE [6] (Qg (r_ ?_)))))
 refine Er results54 (Yw b (v.logd u2 va2) {x with g:=ra.2.1} ra.2.2) (by first|exact Hp.le_refl _|assumption) ?_
 rw[hP];exact⟨rfl,v.logd u2 va2,hv.logd (y:={x with g:=ra.2.1}) hR4 ⟨rfl,rfl⟩ hva2,rfl⟩
def NV.new(u va:Value):NV:=⟨u,va,.map none,.slice none 0 0,.slice none 0 0,[]⟩
theorem BO(l d id n:Nat)(u va:Value)(g:LG)(D:DK)(hn:id<n/\n<=9)(hva:FrX entE R g.all va):
  Tri prog 57 [.int .i64 (id:Int),.int .i64 (n:Int),.pointer (some ⟨l,0,none⟩)] R [Xd l (some ⟨d,0,none⟩) va g,Xg d u D,Xf u D]
   (λr R' L'=>((g.down||D.down)=true/\r=QI [.pointer none,.int .i64 3]/\L'=[Xd l (some ⟨d,0,none⟩) va g,Xg d u D,Xf u D])\/
    (¬(g.down||D.down)=true/\∃bx,r=QI [.pointer (some ⟨bx,0,none⟩),.int .i64 0]/\NOk R' (NV.new u va) (ND.start id n g)/\L'=Yw ⟨bx,l,d⟩ (NV.new u va) (ND.start id n g) D)):=by
 refine To func57 ntmps57 λ_ F _ r_ _ _=>?_
 try simp only[cB]
 refine cS λ_ k1=>Qc (Ps (Ps (Qd (k1 (cS λ_ k2=>Qp (cS λ_ k3=>Qc (Pm ?_)))))))
 refine Pa ((Yld.to (u:=.bool false) (QR rfl rfl) (by rw[decide_eq_false Om]))) (Pm (Pb (Qf rfl) (Pb ((Yld.to (u:=.bool false) (XG rfl rfl) (by rw[decide_eq_false Om]))) (Pa (Qn rfl rfl) (Pm (Pb (Qf rfl) (Pb ((Yld.to (u:=.bool false) (QR rfl rfl) (by rw[decide_eq_false Om]))) (Pa (Qn rfl rfl) (Pm (Pb (Qf rfl) (Pb (Qf rfl) (Pb ((Yld.to (u:=.bool false) (ZP rfl rfl) (by rw[decide_eq_false Om]))) (Pa (Qn rfl rfl) (Ps (Qd (k3 (cE [0,1,2,11] ?_)))))))))))))))))
 refine Qt rfl (cS λ_ k4=>Qc (Pm (Pa (Ca call59 (jS l d va u g D)) (Ps (Qd (k4 (Qi rfl (λhc27=>?_) (λhc27=>?_))))))))
 have f1:(g.down||D.down)=true:=hc27
 exact cS λ_ k6=>Qc (Ps (Ps (Qd (k6 (Qg (r_ (Es results57 [Xd l (some ⟨d,0,none⟩) va g,Xg d u D,Xf u D] (.inl ⟨f1,rfl,rfl⟩))))))))
 have f1:¬(g.down||D.down)=true:=by simpa using hc27
 refine Qh (k2 (cS λ_ k7=>Qc (Pm (Pa (Ca call25 (jT l (some ⟨d,0,none⟩) va g)) (Pm (Pa (Ql rfl rfl) (Pa (Ql rfl rfl) (Pa (Ql rfl rfl) (Ps (Ps (Ps (Qd (k7 (cS λ_ k8=>Qc (Pm (Pm (Pm (Pm (Pa (Xh (cells:=[_,_,_,_,_,_,_,_,_,_,_]) [(0,1),(1,1),(2,1),(3,1),(4,1),(5,1),(6,1),(7,1),(8,1),(9,1),(10,1)] underlying109 zeroValue109 (λ_=>rfl) rfl rfl) (Xc (Qo rfl) rfl rfl rfl (λbx=>Ps (Ps (Zb (A:=Zy (NV.new u va) (ND.start id n g)) (Yr _ _) (Zb (A:=za (NV.new u va).vm (ND.start id n g).votes) (λ_=>trivial) (Qd (k8 (cE [6,7] ?_)))))))))))))))))))))))))))
 exact Qg (r_ (Es results57 (Yw ⟨bx,l,d⟩ (NV.new u va) (ND.start id n g) D) (.inr ⟨f1,bx,rfl,⟨hva,Els.nil,rfl,rfl,rfl,λh=>absurd (show(0:Int)=1 from h) Dc⟩,rfl⟩)))
end V
end Go.Proofs.YtenfjpigffjgmaaGreat
