/- The law GroupLives of layer 11, for every input: started anew and left alone, all follow one leader, and what is put to it is applied by all. -/
import Derived.Test.YtenfjpigffjgmaaGreatWL11Lives5
set_option linter.defProp false
set_option linter.unusedSimpArgs false
set_option linter.unusedVariables false
namespace Go.Proofs.YtenfjpigffjgmaaGreat
open Go.RowKit
open Go.Proofs.Tryz
namespace V
set_option maxHeartbeats 4000000
variable{n i L d j c len p τ:Nat}{H G H0 H':GS}{t k T b I:Int}{m:Msg}{x y:ND}{l:List Msg}{Γ:GH}{w:List Bs}{cmd:Bs}{o:OC}{W:WS}
structure Top (n d:Nat) (t p:Int) (H:GS):Prop where
 inv:InvL n 0 H
 hi:∀j,j<n->(H.nd j).g.term<=t
 dd:(H.nd d).g.term=t/\(H.nd d).patience=p/\¬(H.nd d).role=2
 m:∀a∈H.q,Vd n a->((a.kind=0\/Xv a)->a.term<t/\¬a.frm=d)/\((a.kind=1\/a.kind=3)->¬a.to=d)/\(a.kind=1->a.ok=true->a.term<t)
 l:∀i,i<n->(H.nd i).role=2->(H.nd i).g.term<t
def Top.del{p:Int}(hdn:d<n)(h:Top n d t p H)(hs:Stp n H (H.delS 0))(hq:H.q=m::l):Top n d t p (H.delS 0):=by
 have hd:=hs.dl hq;have hndc:∀i,i<n->NdC n i (H.nd i):=λi hi=>hs.nd hi;obtain⟨d1,d2,d3⟩:=h.dd;have hin:∀a∈l,a∈H.q:=λa ha=>by rw[hq];exact H9 _ ha
 suffices k:(∀j,j<n->((H.delS 0).nd j).g.term<=t)/\(((H.delS 0).nd d).g.term=t/\((H.delS 0).nd d).patience=p/\¬((H.delS 0).nd d).role=2)/\(∀a∈(H.delS 0).q,Vd n a->((a.kind=0\/Xv a)->a.term<t/\¬a.frm=d)/\((a.kind=1\/a.kind=3)->¬a.to=d)/\(a.kind=1->a.ok=true->a.term<t))/\(∀i,i<n->((H.delS 0).nd i).role=2->((H.delS 0).nd i).g.term<t)from⟨hs.inv hq h.inv,k.1,k.2.1,k.2.2.1,k.2.2.2⟩
 generalize H.delS 0=H' at hd;cases hd with
 |skip hx hnd hq'=>
  refine⟨λj hj=>by rw[hnd];exact h.hi j hj,by rw[hnd];exact h.dd,λa ha=>?_,λi hi hr=>by rw[hnd]at hr|-;exact h.l i hi hr⟩;rw[hq']at ha;exact h.m a (hin a ha)
 |go i y out hi hto hvm hnd hq' he hid=>
  have hu:=yN (H.nd i) m.term;obtain⟨m1,m2,m3⟩:=h.m m (by rw[hq];simp) hvm;have hmt:m.term<=t:=by
   obtain⟨k,hk,e⟩:=h.inv.mt m (by rw[hq];simp) hvm;have:=h.hi k hk;omega
  have hyt:=he.term;have hut:=hu.term;have hit:=h.hi i hi;have hvm2:=hvm;unfold Vd at hvm2;have houts:=he.outs (by rw[hid.1,hu.rest.2.2.1,(hndc i hi).id]);have hxi:((H.nd i).up m.term).id=i:=hu.rest.2.2.1.trans (hndc i hi).id;by_cases hid':i=d
  .subst hid';have hk3:¬m.kind=1/\¬m.kind=3:=⟨λk=>m2 (.inl k) hto,λk=>m2 (.inr k) hto⟩;have hx1:(H.nd i).up m.term=H.nd i:=hu.same Om;rw[hx1]at he hyt houts;have key:y=H.nd i/\∀a∈out,(a.kind=1\/a.kind=3)/\a.to=m.frm/\(m.kind=0\/Xv m)/\a.ok=false:=by
    cases he with
    |ask hk hy ho=>
     have hg:(H.nd i).grants m=false:=by
      have:=(m1 (.inl hk)).1;unfold ND.grants;rw[show decide (m.term=(H.nd i).g.term)=false from decide_eq_false Om];rfl
     rw[hg]at hy ho;refine⟨hy,λa ha=>?_⟩;rw[ho,GO]at ha;subst ha;exact⟨.inl rfl,rfl,.inl hk,rfl⟩
    |win hk hr ht hok hm hw=>exact Gr hk hk3.1
    |vt hk hr ht hok hm hy ho=>exact Gr hk hk3.1
    |qt h0 h1 h2 h3 hy ho=>exact⟨hy,λa ha=>by rw[ho]at ha;cases ha⟩
    |low hk ht hy ho=>
     refine⟨hy,λa ha=>?_⟩;rw[ho,GO]at ha;subst ha;exact⟨.inr rfl,rfl,.inr hk,rfl⟩
    |fed hk ht hr hd hf=>have:=(m1 (.inr hk)).1;omega
    |hrd hk hr ht hd hh=>exact Gr hk hk3.2
   have hsame:∀j,H'.nd j=H.nd j:=λj=>by
    rw[hnd];split;.rename_i e;subst e;exact key.1
    rfl
   refine⟨λj hj=>by rw[hsame];exact h.hi j hj,by rw[hsame];exact h.dd,λa ha hva=>?_,λi hi hr=>by rw[hsame]at hr|-;exact h.l i hi hr⟩;rw[hq']at ha;rcases GE.1 ha with ha|ha
   .exact h.m a (hin a ha) hva
   obtain⟨k1,k2,k3,k4⟩:=key.2 a ha;exact⟨λh=>by unfold Xv at h;omega,λ_=>by rw[k2];exact(m1 k3).2,λ_ h=>by rw[k4]at h;cases h⟩
  have hnd':H'.nd d=H.nd d:=by rw[hnd,ac (λh=>hid' h.symm)]
  have hl':y.role=2->y.g.term<t:=λhr=>by
   rcases he.lead hr with⟨k1,k2,k3,hw⟩|hk
   .obtain⟨e,_⟩:=hu.two Om;rw[hyt,<-k2];cases he with
    |win hk' hr' ht hok hm hw=>exact m3 hk' hok
    |ask hk' hy ho=>omega
    |vt hk' hr' ht hok hm hy ho=>exact m3 hk' hok
    |qt h0 h1 h2 h3 hy ho=>rw[hy]at hr;omega
    |low hk' ht hy ho=>unfold Xv at hk';omega
    |fed hk' ht hr' hd hf=>unfold Xv at hk';omega
    |hrd hk' hr' ht hd hh=>omega
   have hk2:((H.nd i).up m.term).role=2:=by rcases hk with⟨a,b,_⟩|⟨a,b,_⟩<;>exact a
   obtain⟨e,_⟩:=hu.two Om;rw[hyt,e];rw[e]at hk2;exact h.l i hi hk2
  refine⟨λj hj=>?_,by rw[hnd'];exact h.dd,λa ha hva=>?_,λj hj hr=>?_⟩
  .rw[hnd];split;.omega
   exact h.hi j hj
  .rw[hq']at ha;rcases GE.1 ha with ha|ha
   .exact h.m a (hin a ha) hva
   obtain⟨o1,o2,o3,o4,o5⟩:=houts a ha;refine⟨λhk=>?_,λhk=>?_,λhk hok=>?_⟩
   .rcases hk with hk|hk;.exact Gr hk o4
    have:=hl' (o3 hk);refine⟨Om,by rw[o1,hxi];omega⟩
   .
    cases he with
    |ask hk' hy ho=>rw[ho,GO]at ha;subst ha;exact(m1 (.inl hk')).2
    |win hk' hr ht hok hm hw=>have:=o5;rw[hw.out]at ha;obtain⟨j,_,rfl⟩:=Gu.1 ha;have:=(ZB y j).1;unfold Xv at this;omega
    |vt hk' hr ht hok hm hy ho=>rw[ho]at ha;cases ha
    |qt h0 h1 h2 h3 hy ho=>rw[ho]at ha;cases ha
    |low hk' ht hy ho=>rw[ho,GO]at ha;subst ha;exact(m1 (.inr hk')).2
    |fed hk' ht hr hd hf=>
     rcases hf.out with e|⟨b,e,b1,b2,_⟩
     .rw[e]at ha;cases ha
     .rw[e,GO]at ha;subst ha;rw[b2];exact(m1 (.inr hk')).2
    |hrd hk' hr ht hd hh=>
     rcases hh.out with e|e
     .rw[e]at ha;cases ha
     .rw[e,GO]at ha;subst ha;have:=(ZB y m.frm.toNat).1;unfold Xv at this;omega
   have hk0:=o5 hk;cases he with
   |ask hk' hy ho=>
    rw[ho,GO]at ha;subst ha;have k2:((H.nd i).up m.term).grants m=true:=hok;unfold ND.grants at k2;simp[G6,HR]at k2;have:=k2.1.1.1;have:=(m1 (.inl hk')).1;omega
   |win hk' hr ht hok hm hw=>omega
   |vt hk' hr ht hok hm hy ho=>omega
   |qt h0 h1 h2 h3 hy ho=>omega
   |low hk' ht hy ho=>unfold Xv at hk';omega
   |fed hk' ht hr hd hf=>unfold Xv at hk';omega
   |hrd hk' hr ht hd hh=>omega
  rw[hnd]at hr|-;split at hr;.rename_i e;rw[an e];exact hl' hr
  rename_i e;rw[ac e];exact h.l j hj hr
def Eqt(n:Nat)(t:Int)(H:GS):Prop:=Calm n H/\∀j,j<n->(H.nd j).g.term=t
def TkC.term(h:TkC n H0 n H)(hi:i<n):(Sd (H0.nd i)/\(H.nd i).g.term=(H0.nd i).g.term+1)\/(¬Sd (H0.nd i)/\(H.nd i).g.term=(H0.nd i).g.term):=by
 by_cases hd:Sd (H0.nd i);.exact .inl ⟨hd,by rw[h.s i hi hd];rfl⟩
 exact .inr ⟨hd,by rw[h.w i hi hd]⟩
def Eqt.of(h:ToT n t H)(hc:Calm n H):Eqt n t H:=⟨hc,λj hj=>by
 rcases h.lo j hj with h1|⟨a,ha,_⟩;.exact h1
 rw[hc.2.1]at ha;cases ha⟩
def oZ(f:Nat->Int):∀n,1<=n->∃d,d<n/\∀j,j<n->f j<=f d
 |1,_=>⟨0,by omega,λj hj=>by rw[show j=0 by omega];exact Gk _⟩
 |n+2,_=>by
  let⟨d,hd,h⟩:=oZ f (n+1) Om;by_cases e:f d<=f (n+1)
  .exact⟨n+1,by omega,λj hj=>by
    by_cases e2:j=n+1;.rw[e2];exact Gk _
    exact Hg (h j Om) e⟩
  exact⟨d,by omega,λj hj=>by
   by_cases e2:j=n+1;.rw[e2];omega
   exact h j Om⟩
def Calm.top(hn:2<=n/\n<=5)(h:Calm n H)(hl:LW n (c+1+(n+200)) (d+n) H){e:Nat}(he:e<n)(hm:∀j,j<n->(H.nd j).g.term<=(H.nd e).g.term):
  Stab n (H.roundS n)\/(∃t,Eqt n t (H.roundS n))\/(Calm n (H.roundS n)/\(∀j,j<n->((H.roundS n).nd j).g.term<=((H.roundS n).nd e).g.term)/\((H.roundS n).nd e).g.term=(H.nd e).g.term/\((H.roundS n).nd e).patience=(H.nd e).patience+1/\¬Sd (H.nd e)):=by
 have hl1:LW n (c+1+200+n) (d+n) H:=by rw[show c+1+200+n=c+1+(n+200)by omega];exact hl
 have htk:=h.ticks hn.1 hl1;have hiv:InvL n 0 (H.ticksS n):=InvL.turn (ZT (J:=λp H=>InvL n p H) (λp H1 hp hs hj=>hs.invT hp hj) h.1 (Gl n) hl1).1;have hid:∀i,i<n->(H.nd i).id=i:=λi hi=>(LW.nd (c:=c+200+n) (by rw[show c+200+n+1=c+1+(n+200)by omega];exact hl) hi).id;obtain⟨s,hs,hmx⟩:=oZ (λi=>((H.ticksS n).nd i).g.term) n Om;by_cases hx:∃i,i<n/\Sd (H.nd i)/\((H.ticksS n).nd i).g.term=((H.ticksS n).nd s).g.term
 .obtain⟨i,hi,hd,hti⟩:=hx;have hJ:ToT n ((H.ticksS n).nd s).g.term (H.ticksS n):=by
   refine⟨hiv,hmx,λj hj=>?_⟩;by_cases e2:j=i;.left;rw[e2];exact hti
   obtain⟨a1,a2,a3,a4,_⟩:=qp (H.nd i) j;have a5:=hid i hi;refine .inr ⟨_,htk.a i j hi hd hj e2,by unfold Vd;omega,a3,?_⟩;rw[a4,<-hti,htk.s i hi hd];rfl
  rcases aT hn.2 h hl (J:=ToT n ((H.ticksS n).nd s).g.term) hJ (λm l H1 hs hq hj=>hj.del hs hq)with h1|⟨h1,h2⟩;.exact .inl h1
  exact .inr (.inl ⟨_,Eqt.of h2 h1⟩)
 have hno:∀i,i<n->Sd (H.nd i)->((H.ticksS n).nd i).g.term<((H.ticksS n).nd s).g.term:=λi hi hd=>by
  have h1:=hmx i hi;have h2:¬((H.ticksS n).nd i).g.term=((H.ticksS n).nd s).g.term:=λe=>hx ⟨i,hi,hd,e⟩;omega
 have hst:((H.ticksS n).nd s).g.term=(H.nd s).g.term:=by
  rcases htk.term hs with⟨a,b⟩|⟨a,b⟩;.have:=hno s hs a;omega
  exact b
 have hne:¬Sd (H.nd e):=λhd=>by
  have h1:=hno e he hd;have h2:=hm s hs;rcases htk.term he with⟨_,b⟩|⟨a,_⟩
  .omega
  exact a hd
 have het:((H.ticksS n).nd e).g.term=(H.nd e).g.term:=by
  rcases htk.term he with⟨a,_⟩|⟨_,b⟩;.exact Gr a hne
  exact b
 have hes:(H.nd e).g.term=(H.nd s).g.term:=Kv (by have:=hmx e he;omega) (hm s hs);have hJ:Top n e (H.nd e).g.term ((H.nd e).patience+1) (H.ticksS n):=by
  have hw:=htk.w e he hne;refine⟨hiv,λj hj=>by have:=hmx j hj;omega,⟨het,by rw[hw],by rw[hw];exact h.2.2 e he⟩,λa ha hva=>?_,λi hi hr=>?_⟩
  .obtain⟨q,j,q1,q2,q3,q4,rfl⟩:=htk.q a ha;obtain⟨a1,a2,a3,a4,_⟩:=qp (H.nd q) j;have h5:=hno q q1 q2;rw[htk.s q q1 q2]at h5;have h6:(H.nd q).g.term+1<((H.ticksS n).nd s).g.term:=h5;refine⟨λ_=>⟨by omega,λe2=>?_⟩,λh=>by omega,λh=>by omega⟩;rw[a2,hid q q1]at e2;have:q=e:=by omega
   subst this;exact hne q2
  by_cases hd:Sd (H.nd i);.rw[htk.s i hi hd]at hr;exact Gr (show(1:Int)=2 from hr) Dc
  rw[htk.w i hi hd]at hr;exact Gr hr (h.2.2 i hi)
 rcases aT hn.2 h hl (J:=Top n e (H.nd e).g.term ((H.nd e).patience+1)) hJ (λm l H1 hs hq hj=>hj.del he hs hq)with h1|⟨h1,h2⟩;.exact .inl h1
 refine .inr (.inr ⟨h1,λj hj=>?_,h2.dd.1,h2.dd.2.1,hne⟩);rw[h2.dd.1];exact h2.hi j hj
def E7(n j:Nat)(H:GS):Prop:=∃i,i<=j/\(Stab n (H.roundsS n i)\/∃t,Eqt n t (H.roundsS n i))
def EA{n:Nat}(hn:2<=n/\n<=5):∀(r:Nat) {c d:Nat} {H:GS},Calm n H->∀{e:Nat},e<n->(∀j,j<n->(H.nd j).g.term<=(H.nd e).g.term)->20<=(H.nd e).patience+r->LW n (c+1+(r+1)*(n+200)) (d+(r+1)*n) H->E7 n (r+1) H
 |r,c,d,H,h,e,he,hm,hp,hl=>by
  have hl1:LW n (c+r*(n+200)+1+(n+200)) (d+r*n+n) H:=by
   rw[show c+r*(n+200)+1+(n+200)=c+1+(r+1)*(n+200)by rw[G4];omega,show d+r*n+n=d+(r+1)*n by rw[G4];omega];exact hl
  rcases h.top hn hl1 he hm with h1|h1|⟨h1,h2,h3,h4,h5⟩;.exact⟨1,by omega,.inl (by rw[XP];exact h1)⟩
  .exact⟨1,by omega,.inr (by rw[XP];exact h1)⟩
  cases r with
  |zero=>
   exfalso;have:=yL (H.nd e).id (H.nd e).g.term;exact h5 (by unfold Sd;omega)
  |succ r=>
   let⟨i,hi,h6⟩:=EA hn r h1 he h2 Om (c:=c) (d:=d) (LW.round (by
    rw[show c+1+(r+1)*(n+200)+(n+200)=c+(r+1)*(n+200)+1+(n+200)by omega];exact hl1))
   exact⟨i+1,by omega,by rw[XP];exact h6⟩
def qD(c j:ND):Prop:=c.tAt c.g.last>j.tAt j.g.last\/(c.tAt c.g.last=j.tAt j.g.last/\c.g.last>=j.g.last)
def SL(x y:ND):Prop:=y.g.base=x.g.base/\y.g.baseT=x.g.baseT/\y.g.all=x.g.all
def SL.tl(h:SL x y):y.g.last=x.g.last/\y.tAt y.g.last=x.tAt x.g.last:=by
 let⟨h1,h2,h3⟩:=h;have hl:y.g.last=x.g.last:=by unfold LG.last;rw[h1,h3]
 refine⟨hl,?_⟩;rw[hl];unfold ND.tAt LG.termAt LG.at;rw[h1,h2,h3,hl]
def SL.trans{x y z:ND}(h:SL x y)(k:SL y z):SL x z:=⟨k.1.trans h.1,k.2.1.trans h.2.1,k.2.2.trans h.2.2⟩
def SL.up(h:Up x y t):SL x y:=⟨h.g.1,h.g.2.1,h.g.2.2.1⟩
def gW{c:ND}(h:SL x y):qD c y↔qD c x:=by unfold qD;rw[h.tl.2,h.tl.1]
def pA{c:ND}(h:SL x y):qD y c↔qD x c:=by unfold qD;rw[h.tl.2,h.tl.1]
def pz{a b c:ND}(h:qD a b)(k:qD b c):qD a c:=by unfold qD at*;omega
def pB{a b:ND}:qD a b\/qD b a:=by unfold qD;omega
def LedL(n L:Nat)(u:Int)(H:GS):Prop:=InvL n 0 H/\(∀j,j<n->(H.nd j).g.term<=u)/\L<n/\(H.nd L).role=2/\(H.nd L).g.term=u
def Led(n:Nat)(u:Int)(H:GS):Prop:=InvL n 0 H/\(∀j,j<n->(H.nd j).g.term<=u)/\∃L,L<n/\(H.nd L).role=2/\(H.nd L).g.term=u
def LedL.del{u:Int}(h:LedL n L u H)(hs:Stp n H (H.delS 0))(hq:H.q=m::l):LedL n L u (H.delS 0):=by
 let⟨hv,hi,hL,hr,ht⟩:=h;have hd:=hs.dl hq;refine⟨hs.inv hq hv,?_⟩;have hm:Vd n m->m.term<=u:=λhvd=>by
  let⟨k,hk,e⟩:=hv.mt m (by rw[hq];simp) hvd;have:=hi k hk;omega
 generalize H.delS 0=H' at hd;cases hd with
 |skip hx hnd hq'=>exact⟨λj hj=>by rw[hnd];exact hi j hj,hL,by rw[hnd];exact hr,by rw[hnd];exact ht⟩
 |go i y out hi' hto hvm hnd hq' he hid=>
  have hyt:y.g.term=max (H.nd i).g.term m.term:=he.term.trans (yN (H.nd i) m.term).term;have:=hm hvm;have:=hi i hi';refine⟨λj hj=>?_,hL,?_⟩
  .rw[hnd];split;.omega
   exact hi j hj
  rw[hnd];split
  .rename_i e;subst e;refine⟨?_,Om⟩;have e1:=(yN (H.nd L) m.term).same Om;rw[e1]at he;cases he with
   |ask hk hy ho=>
    rw[hy];split;.exact hr
    exact hr
   |win hk hr' ht' hok hm' hw=>exact hw.role
   |vt hk hr' ht' hok hm' hy ho=>rw[hy];exact hr
   |qt h0 h1 h2' h3 hy ho=>rw[hy];exact hr
   |low hk ht' hy ho=>rw[hy];exact hr
   |fed hk ht' hr' hd hf=>exact Gr hr hr'
   |hrd hk hr' ht' hd hh=>exact hh.c.1
  exact⟨hr,ht⟩
def Led.del{n:Nat}{u:Int}{H:GS}(h:Led n u H)(hs:Stp n H (H.delS 0)){m:Msg}{l:List Msg}(hq:H.q=m::l):Led n u (H.delS 0):=by
 let⟨hv,hi,L,h⟩:=h;let⟨a,b,c⟩:=LedL.del (L:=L) ⟨hv,hi,h⟩ hs hq;exact⟨a,b,L,c⟩
structure Elc (n:Nat) (t:Int) (H0 H:GS):Prop where
 inv:InvL n 0 H
 q:∀a∈H.q,(∃s j,s<n/\Sd (H0.nd s)/\j<n/\j≠s/\a=YG (H0.nd s) j)\/(a.kind=1/\a.term=t+1/\∃s,s<n/\Sd (H0.nd s)/\a.to=s)
 lg:∀i,i<n->SL (H0.nd i) (H.nd i)
 st:∀s,s<n->Sd (H0.nd s)->(H.nd s).role=1/\(H.nd s).g.term=t+1/\(H.nd s).patience=0
 ns:∀j,j<n->¬Sd (H0.nd j)->¬(H.nd j).role=2/\(((H.nd j).g.term=t/\(H.nd j).patience=(H0.nd j).patience+1/\∀s,s<n->Sd (H0.nd s)->YG (H0.nd s) j∈H.q)\/((H.nd j).g.term=t+1/\(H.nd j).role=0/\(((H.nd j).g.vote= -1/\(H.nd j).patience=(H0.nd j).patience+1/\∀s,s<n->Sd (H0.nd s)->YG (H0.nd s) j∈H.q\/¬qD (H0.nd s) (H0.nd j))\/(¬(H.nd j).g.vote= -1/\(H.nd j).patience=0/\∃s,s<n/\Sd (H0.nd s)/\qD (H0.nd s) (H0.nd j)))))
def py{c:ND}:x.good (YG c j)=true↔qD c x:=by
 let⟨_,_,_,_,a5,a6⟩:=qp c j;unfold ND.good qD;rw[a5,a6];simp
def Elc.del(hid:∀i,i<n->(H0.nd i).id=i)(ht0:∀i,i<n->(H0.nd i).g.term=t)(h:Elc n t H0 H)(hs:Stp n H (H.delS 0))(hq:H.q=m::l):Led n (t+1) (H.delS 0)\/Elc n t H0 (H.delS 0):=by
 have hd:=hs.dl hq;have hiv:=hs.inv hq h.inv;have hmi:=h.q m (by rw[hq];simp);have hin:∀a∈l,a∈H.q:=λa ha=>by rw[hq];exact H9 _ ha
 have hout:∀a∈H.q,a=m\/a∈l:=λa ha=>by rw[hq]at ha;exact Gn.1 ha
 have hle:∀j,j<n->(H.nd j).g.term<=t+1:=λj hj=>by
  by_cases e:Sd (H0.nd j);.exact I2 (h.st j hj e).2.1
  rcases(h.ns j hj e).2 with⟨k,_⟩|⟨k,_⟩<;>omega
 have key:∀(H':GS),InvL n 0 H'->∀(out:List Msg),H'.q=l++out->(∀a∈out,a.kind=1/\a.term=t+1/\∃s,s<n/\Sd (H0.nd s)/\a.to=s)->(∀a∈H'.q,(∃s j,s<n/\Sd (H0.nd s)/\j<n/\j≠s/\a=YG (H0.nd s) j)\/(a.kind=1/\a.term=t+1/\∃s,s<n/\Sd (H0.nd s)/\a.to=s)):=λH' _ out hq' ho a ha=>by
  rw[hq']at ha;rcases GE.1 ha with ha|ha
  .exact h.q a (hin a ha)
  exact .inr (ho a ha)
 generalize H.delS 0=H' at hd hiv;cases hd with
 |skip hx hnd hq'=>
  refine .inr ⟨hiv,λa ha=>h.q a (hin a (by rw[<-hq'];exact ha)),λi hi=>by rw[hnd];exact h.lg i hi,λs hs hd=>by rw[hnd];exact h.st s hs hd,λj hj hd=>?_⟩;have hask:∀s,s<n->Sd (H0.nd s)->YG (H0.nd s) j∈H.q->YG (H0.nd s) j∈H'.q:=λs hs hsd ha=>by
   rcases hout _ ha with e|e
   .let⟨a1,a2,a3,a4,_⟩:=qp (H0.nd s) j;have hjs:j≠s:=λe2=>by subst e2;exact hd hsd
    have:=hid s hs;exact Gr ⟨by rw[<-e];unfold Vd;omega,by rw[<-e];omega,by rw[<-e];omega⟩ hx
   rw[hq'];exact e
  rw[hnd];refine(h.ns j hj hd).imp id (MZ (λ⟨a,b,c⟩=>⟨a,b,λs hs hsd=>hask s hs hsd (c s hs hsd)⟩) λ⟨a,b,c⟩=>⟨a,b,c.imp (λ⟨c1,c2,c3⟩=>⟨c1,c2,λs hs hsd=>(c3 s hs hsd).imp (hask s hs hsd) id⟩) id⟩)
 |go i y out hi hto hvm hnd hq' he hid'=>
  have hni:H'.nd i=y:=by rw[hnd,an rfl]
  have hnj:∀j,j≠i->H'.nd j=H.nd j:=λj e=>by rw[hnd,ac e]
  have hu:=yN (H.nd i) m.term;have hyt:=he.term;rcases hmi with⟨s,j,hs1,hs2,hj1,hj2,hm⟩|⟨k1,k2,s,hs1,hs2,hto2⟩
  .
   let⟨a1,a2,a3,a4,_⟩:=qp (H0.nd s) j
   rw[<-hm]at a1 a2 a3 a4
   have hji:j=i:=Om
   subst hji
   have hsid:=hid s hs1
   have hst:=ht0 s hs1
   have hother:∀j',j'≠j->∀s',YG (H0.nd s') j'∈H.q->YG (H0.nd s') j'∈H'.q:=λj' e s' ha=>by
    rcases hout _ ha with e2|e2
    .have:=(qp (H0.nd s') j').2.2.1
     rw[e2,a3]at this;omega
    .rw[hq'];exact GT _ e2
   have hnsk:∀j',j'<n->j'≠j->¬Sd (H0.nd j')->¬(H'.nd j').role=2/\(((H'.nd j').g.term=t/\(H'.nd j').patience=(H0.nd j').patience+1/\∀s,s<n->Sd (H0.nd s)->YG (H0.nd s) j'∈H'.q)\/((H'.nd j').g.term=t+1/\(H'.nd j').role=0/\(((H'.nd j').g.vote= -1/\(H'.nd j').patience=(H0.nd j').patience+1/\∀s,s<n->Sd (H0.nd s)->YG (H0.nd s) j'∈H'.q\/¬qD (H0.nd s) (H0.nd j'))\/(¬(H'.nd j').g.vote= -1/\(H'.nd j').patience=0/\∃s,s<n/\Sd (H0.nd s)/\qD (H0.nd s) (H0.nd j'))))):=λj' hj' e hd=>by
    rw[hnj j' e]
    refine(h.ns j' hj' hd).imp id (MZ (λ⟨a,b,c⟩=>⟨a,b,λs hs hsd=>hother j' e s (c s hs hsd)⟩) λ⟨a,b,c⟩=>⟨a,b,c.imp (λ⟨c1,c2,c3⟩=>⟨c1,c2,λs hs hsd=>(c3 s hs hsd).imp (hother j' e s) id⟩) id⟩)
   have hut:((H.nd j).up m.term).g.term=t+1:=by have:=hle j hj1;rw[hu.term];omega
   have hoo:∀a∈out,a.kind=1/\a.term=t+1/\∃s,s<n/\Sd (H0.nd s)/\a.to=s:=λa ha=>by
    cases he with
    |ask hk hy ho=>rw[ho,GO]at ha;subst ha;exact⟨rfl,hut,s,hs1,hs2,by show m.frm=s;omega⟩
    |win hk hr ht hok hm hw=>omega
    |vt hk hr ht hok hm hy ho=>omega
    |qt h0 h1 h2 h3 hy ho=>exact Gr a1 h0
    |low hk ht hy ho=>unfold Xv at hk;omega
    |fed hk ht hr hd hf=>unfold Xv at hk;omega
    |hrd hk hr ht hd hh=>omega
   have hyy:y=if((H.nd j).up m.term).grants m=true then{(H.nd j).up m.term with g:={((H.nd j).up m.term).g with vote:=m.frm},patience:=0}else(H.nd j).up m.term:=by
    cases he with
    |ask hk hy ho=>exact hy
    |win hk hr ht hok hm hw=>omega
    |vt hk hr ht hok hm hy ho=>omega
    |qt h0 h1 h2 h3 hy ho=>exact Gr a1 h0
    |low hk ht hy ho=>unfold Xv at hk;omega
    |fed hk ht hr hd hf=>unfold Xv at hk;omega
    |hrd hk hr ht hd hh=>omega
   have hyl:SL (H.nd j) y:=by
    rw[hyy];split
    .exact⟨hu.g.1,hu.g.2.1,hu.g.2.2.1⟩
    .exact SL.up hu
   refine .inr ⟨hiv,key H' hiv out hq' hoo,λi' hi'=>?_,λs' hs' hd'=>?_,λj' hj' hd'=>?_⟩
   .by_cases e:i'=j
    .subst e;rw[hni];exact(h.lg i' hi').trans hyl
    .rw[hnj i' e];exact h.lg i' hi'
   .by_cases e:s'=j
    .subst e
     let⟨b1,b2,b3⟩:=h.st s' hs' hd'
     have e1:=hu.same Om
     have hg:(H.nd s').grants m=false:=by unfold ND.grants;rw[b1];simp
     rw[e1,hg]at hyy
     have hyy:y=H.nd s':=hyy
     rw[hni,hyy];exact⟨b1,b2,b3⟩
    .rw[hnj s' e];exact h.st s' hs' hd'
   .by_cases e:j'=j
    .subst e
     rw[hni]
     have hns:=h.ns j' hj' hd'
     have hrl:((H.nd j').up m.term).role=0:=by
      rcases hns.2 with⟨c1,_⟩|⟨c1,c2,_⟩
      .exact(hu.role Om).1
      .rw[hu.same Om];exact c2
     have hgd:((H.nd j').up m.term).good m=true↔qD (H0.nd s) (H0.nd j'):=by
      rw[hm,py]
      exact gW ((h.lg j' hj').trans (SL.up (yN (H.nd j') (YG (H0.nd s) j').term)))
     by_cases hg:((H.nd j').up m.term).grants m=true
     .rw[an hg]at hyy
      have hgg:((H.nd j').up m.term).good m=true:=by unfold ND.grants at hg;simp[G6]at hg;exact hg.2
      have g2:=hgd.1 hgg
      rw[hyy]
      exact⟨by show¬((H.nd j').up m.term).role=2;omega,.inr ⟨hut,hrl,.inr ⟨by show¬m.frm= -1;omega,rfl,s,hs1,hs2,g2⟩⟩⟩
     .rw[ac hg]at hyy
      have hv:(((H.nd j').up m.term).g.vote= -1/\(H.nd j').patience=(H0.nd j').patience+1/\∀s,s<n->Sd (H0.nd s)->YG (H0.nd s) j'∈H.q\/¬qD (H0.nd s) (H0.nd j'))\/(¬((H.nd j').up m.term).g.vote= -1/\(H.nd j').patience=0/\∃s,s<n/\Sd (H0.nd s)/\qD (H0.nd s) (H0.nd j')):=by
       rcases hns.2 with⟨c1,c2,c3⟩|⟨c1,c2,c3⟩
       .exact .inl ⟨(hu.role Om).2.2,c2,λs hs hsd=>.inl (c3 s hs hsd)⟩
       .rw[hu.same Om];exact c3
      have hng:((H.nd j').up m.term).g.vote= -1->¬qD (H0.nd s) (H0.nd j'):=λhv1 g2=>by
       refine hg ?_
       unfold ND.grants
       have e5:m.term=((H.nd j').up m.term).g.term:=Om
       rw[hgd.2 g2,hv1,hrl,IS e5]
       simp
      rw[hyy]
      refine⟨Om,.inr ⟨hut,hrl,?_⟩⟩
      rw[hu.rest.1]
      rcases hv with⟨v1,v2,v3⟩|v
      .refine .inl ⟨v1,v2,λs' hs' hsd'=>?_⟩
       rcases v3 s' hs' hsd' with v3|v3
       .rcases hout _ v3 with e2|e2
        .have e3:=(qp (H0.nd s') j').2.1
         rw[e2,a2]at e3
         have:=hid s' hs'
         have:s'=s:=Om
         subst this
         exact .inr (hng v1)
        .exact .inl (by rw[hq'];exact GT _ e2)
       .exact .inr v3
      .exact .inr v
    .exact hnsk j' hj' e hd'
  .
   have hsi:s=i:=Om
   subst hsi
   let⟨b1,b2,b3⟩:=h.st s hs1 hs2
   have e1:=hu.same Om
   rw[e1]at he hyt
   have hkeep:∀j' s',YG (H0.nd s') j'∈H.q->YG (H0.nd s') j'∈H'.q:=λj' s' ha=>by
    rcases hout _ ha with e2|e2
    .have:=(qp (H0.nd s') j').1
     rw[e2,k1]at this;omega
    .rw[hq'];exact GT _ e2
   have fin:SL (H.nd s) y->y.role=1->y.patience=0->out=[]->Led n (t+1) H'\/Elc n t H0 H':=λf1 f2 f3 f4=>by
    refine .inr ⟨hiv,key H' hiv out hq' (λa ha=>by rw[f4]at ha;cases ha),λi' hi'=>?_,λs' hs' hd'=>?_,λj' hj' hd'=>?_⟩
    .by_cases e:i'=s
     .subst e;rw[hni];exact(h.lg i' hi').trans f1
     .rw[hnj i' e];exact h.lg i' hi'
    .by_cases e:s'=s
     .subst e;rw[hni];exact⟨f2,Om,f3⟩
     .rw[hnj s' e];exact h.st s' hs' hd'
    .have e:j'≠s:=λe=>by subst e;exact hd' hs2
     rw[hnj j' e]
     exact(h.ns j' hj' hd').imp id (MZ (λ⟨a,b,c⟩=>⟨a,b,λs hs hsd=>hkeep j' s (c s hs hsd)⟩) λ⟨a,b,c⟩=>⟨a,b,c.imp (λ⟨c1,c2,c3⟩=>⟨c1,c2,λs hs hsd=>(c3 s hs hsd).imp (hkeep j' s) id⟩) id⟩)
   cases he with
   |ask hk hy ho=>omega
   |win hk hr ht hok hm hw=>
    left
    refine⟨hiv,λj hj=>?_,s,hs1,by rw[hni];exact hw.role,by rw[hni];omega⟩
    by_cases e:j=s
    .subst e;rw[hni];omega
    .rw[hnj j e];exact hle j hj
   |vt hk hr ht hok hm hy ho=>exact fin (by rw[hy];exact⟨rfl,rfl,rfl⟩) (by rw[hy];exact b1) (by rw[hy];exact b3) ho
   |qt h0 h1 h2 h3 hy ho=>exact fin (by rw[hy];exact⟨rfl,rfl,rfl⟩) (by rw[hy];exact b1) (by rw[hy];exact b3) ho
   |low hk ht hy ho=>unfold Xv at hk;omega
   |fed hk ht hr hd hf=>unfold Xv at hk;omega
   |hrd hk hr ht hd hh=>omega
def wR(h:TkC n H0 n H)(hv:InvL n 0 H)(ht:∀i,i<n->(H0.nd i).g.term=t)(hr:∀i,i<n->¬(H0.nd i).role=2):Elc n t H0 H:=by
 refine⟨hv,λa ha=>.inl (h.q a ha),λi hi=>?_,λs hs hd=>?_,λj hj hd=>?_⟩
 .by_cases hd:Sd (H0.nd i);.rw[h.s i hi hd];exact⟨rfl,rfl,rfl⟩
  rw[h.w i hi hd];exact⟨rfl,rfl,rfl⟩
 .rw[h.s s hs hd];exact⟨rfl,by show(H0.nd s).g.term+1=_;rw[ht s hs],rfl⟩
 rw[h.w j hj hd];exact⟨hr j hj,.inl ⟨ht j hj,rfl,λs hs hsd=>h.a s j hs hsd hj (λe=>by subst e;exact hd hsd)⟩⟩
def ff{H:GS}(hq:H.q=[]):∀j,H.delsS j=H
 |0=>rfl
 |j+1=>by show(H.delsS j).del1S=H;rw[ff hq j,yw hq]
structure ElR (n:Nat) (t:Int) (H H':GS):Prop where
 e:∃u,Eqt n u H'/\((∃s,s<n/\Sd (H.nd s))->u=t+1)/\((¬∃s,s<n/\Sd (H.nd s))->u=t)
 lg:∀i,i<n->SL (H.nd i) (H'.nd i)
 st:∀s,s<n->Sd (H.nd s)->(H'.nd s).patience=0
 ns:∀j,j<n->¬Sd (H.nd j)->((H'.nd j).patience=(H.nd j).patience+1/\∀s,s<n->Sd (H.nd s)->¬qD (H.nd s) (H.nd j))\/((H'.nd j).patience=0/\∃s,s<n/\Sd (H.nd s)/\qD (H.nd s) (H.nd j))
structure El2 (n:Nat) (t:Int) (H0:GS) (b:Nat) (H:GS):Prop where
 v:∀j,j<n->j≠b->YG (H0.nd b) j∈H.q\/(∃a∈H.q,a.kind=1/\a.to=b/\a.ok=true/\a.frm=j/\a.term=t+1)\/(j:Int)∈(H.nd b).votes
 own:(b:Int)∈(H.nd b).votes/\¬2*((H.nd b).votes.length:Int)>n
 vt:∀j,j<n->j≠b->(H.nd j).g.term=t\/((H.nd j).g.term=t+1/\(H.nd j).role=0/\((H.nd j).g.vote= -1\/(H.nd j).g.vote=b))
def vF{l:List Int}{i:Int}:i∈QS l i/\∀j∈l,j∈QS l i:=by
 unfold QS;split;.rename_i h;exact⟨h,λj hj=>hj⟩
 exact⟨Si,λj hj=>by simp[hj]⟩
def tq:∀(n:Nat) (l:List Int),(∀j:Nat,j<n->(j:Int)∈l)->n<=l.length
 |0,_,_=>He _
 |n+1,l,h=>by
  have h1:=tq n (l.erase (n:Int)) (λj hj=>(MF Om).2 (h j Om));have h2:=h n Om;rw[Jo h2]at h1;have:=Mp h2;omega
def El2.del{b:Nat}(hb:b<n)(hid:∀i,i<n->(H0.nd i).id=i)(ht0:∀i,i<n->(H0.nd i).g.term=t)(hlone:∀s,s<n->(Sd (H0.nd s)↔s=b))(hbest:∀j,j<n->qD (H0.nd b) (H0.nd j))(he:Elc n t H0 H)(h:El2 n t H0 b H)(hs:Stp n H (H.delS 0))(hq:H.q=m::l)(he':Elc n t H0 (H.delS 0)):El2 n t H0 b (H.delS 0):=by
 have hd:=hs.dl hq;have hnc:∀i,i<n->NdC n i (H.nd i):=λi hi=>hs.nd hi;have hmi:=he.q m (by rw[hq];simp);have hout:∀a∈H.q,a=m\/a∈l:=λa ha=>by rw[hq]at ha;exact Gn.1 ha
 have hsb:Sd (H0.nd b):=(hlone b hb).2 rfl;have hst:=he.st b hb hsb;have hst':=he'.st b hb hsb;generalize H.delS 0=H' at hd he' hst';cases hd with
 |skip hx hnd hq'=>
  have hask:∀j,j<n->j≠b->YG (H0.nd b) j∈H.q->YG (H0.nd b) j∈H'.q:=λj hj hjb ha=>by
   rcases hout _ ha with e|e;.let⟨a1,a2,a3,a4,_⟩:=qp (H0.nd b) j;have:=hid b hb;exact Gr ⟨by rw[<-e];unfold Vd;omega,by rw[<-e];omega,by rw[<-e];omega⟩ hx
   rw[hq'];exact e
  refine⟨λj hj hjb=>?_,by rw[hnd];exact h.own,λj hj hjb=>by rw[hnd];exact h.vt j hj hjb⟩;rw[hnd];rcases h.v j hj hjb with k|⟨a,ha,k1,k2,k3,k4,k5⟩|k
  .exact .inl (hask j hj hjb k)
  .rcases hout _ ha with e|e;.exact Gr ⟨by rw[<-e];unfold Vd;omega,by rw[<-e];omega,by rw[<-e];omega⟩ hx
   exact .inr (.inl ⟨a,by rw[hq'];exact e,k1,k2,k3,k4,k5⟩)
  exact .inr (.inr k)
 |go i y out hi hto hvm hnd hq' hef hid'=>
  have hni:H'.nd i=y:=by rw[hnd,an rfl]
  have hnj:∀j,j≠i->H'.nd j=H.nd j:=λj e=>by rw[hnd,ac e]
  have hu:=yN (H.nd i) m.term;rcases hmi with⟨s,j,hs1,hs2,hj1,hj2,hm⟩|⟨k1,k2,s,hs1,hs2,hto2⟩
  .have hsb':s=b:=(hlone s hs1).1 hs2;subst hsb';let⟨a1,a2,a3,a4,_⟩:=qp (H0.nd s) j;rw[<-hm]at a1 a2 a3 a4;have hji:j=i:=Om;subst hji;have hsid:=hid s hs1;have hst0:=ht0 s hs1;have hvt:=h.vt j hj1 hj2;have hut:((H.nd j).up m.term).g.term=t+1/\((H.nd j).up m.term).role=0/\(((H.nd j).up m.term).g.vote= -1\/((H.nd j).up m.term).g.vote=s):=by
    rcases hvt with k|⟨k1,k2,k3⟩;.exact⟨by rw[hu.term];omega,(hu.role Om).1,.inl (hu.role Om).2.2⟩
    rw[hu.same Om];exact⟨k1,k2,k3⟩
   have hgd:((H.nd j).up m.term).good m=true:=by
    rw[hm,py];exact(gW ((he.lg j hj1).trans (SL.up (yN (H.nd j) (YG (H0.nd s) j).term)))).2 (hbest j hj1)
   have hg:((H.nd j).up m.term).grants m=true:=by
    have e5:m.term=((H.nd j).up m.term).g.term:=Om;have e6:m.frm=(s:Int):=Om;unfold ND.grants;rw[hgd,hut.2.1,IS e5,e6];rcases hut.2.2 with e7|e7<;>rw[e7]<;>simp
   cases hef with
   |ask hk hy ho=>
    rw[an hg]at hy;rw[hg]at ho;have hfr:(((H.nd j).up m.term).stamp (ND.voteMsg m true)).frm=j:=by
     show(((H.nd j).up m.term).id:Int)=j;rw[hu.rest.2.2.1,(hnc j hj1).id]
    refine⟨λj' hj' hjb=>?_,by rw[hnj s (λe=>hj2 e.symm)];exact h.own,λj' hj' hjb=>?_⟩
    .by_cases e:j'=j;.subst e;refine .inr (.inl ⟨_,by rw[hq',ho];exact HH _ (GO.2 rfl),rfl,by show m.frm=s;omega,rfl,hfr,hut.1⟩)
     rw[hnj s (λe=>hj2 e.symm)];rcases h.v j' hj' hjb with k|⟨a,ha,k1,k2,k3,k4,k5⟩|k
     .rcases hout _ k with e2|e2;.have:=(qp (H0.nd s) j').2.2.1;rw[e2,a3]at this;omega
      exact .inl (by rw[hq'];exact GT _ e2)
     .rcases hout _ ha with e2|e2;.rw[e2]at k1;omega
      exact .inr (.inl ⟨a,by rw[hq'];exact GT _ e2,k1,k2,k3,k4,k5⟩)
     exact .inr (.inr k)
    by_cases e:j'=j;.subst e;rw[hni,hy];exact .inr ⟨hut.1,hut.2.1,.inr (by show m.frm=s;omega)⟩
    rw[hnj j' e];exact h.vt j' hj' hjb
   |win hk hr ht hok hm hw=>omega
   |vt hk hr ht hok hm hy ho=>omega
   |qt h0 h1 h2 h3 hy ho=>exact Gr a1 h0
   |low hk ht hy ho=>unfold Xv at hk;omega
   |fed hk ht hr hd hf=>unfold Xv at hk;omega
   |hrd hk hr ht hd hh=>omega
  have hsb':s=b:=(hlone s hs1).1 hs2;subst hsb';have hsi:s=i:=Om;subst hsi;have e1:=hu.same Om;rw[e1]at hef;have hkeep:∀j,YG (H0.nd s) j∈H.q->YG (H0.nd s) j∈H'.q:=λj ha=>by
   rcases hout _ ha with e2|e2;.have:=(qp (H0.nd s) j).1;rw[e2,k1]at this;omega
   rw[hq'];exact GT _ e2
  cases hef with
  |ask hk hy ho=>omega
  |win hk hr ht hok hm hw=>rw[hni,hw.role]at hst';exact Gr hst'.1 Dc
  |vt hk hr ht hok hm hy ho=>
   let⟨q1,q2⟩:=vF (l:=(H.nd s).votes) (i:=m.frm);have hyv:y.votes=QS (H.nd s).votes m.frm:=by rw[hy]
   refine⟨λj hj hjb=>?_,?_,λj hj hjb=>by rw[hnj j hjb];exact h.vt j hj hjb⟩
   .rw[hni,hyv];rcases h.v j hj hjb with k|⟨a,ha,k1,k2,k3,k4,k5⟩|k
    .exact .inl (hkeep j k)
    .rcases hout _ ha with e2|e2;.subst e2;rw[<-k4];exact .inr (.inr q1)
     exact .inr (.inl ⟨a,by rw[hq'];exact GT _ e2,k1,k2,k3,k4,k5⟩)
    exact .inr (.inr (q2 _ k))
   rw[hni,hyv];have hn:=(hnc s hs1).n;exact⟨q2 _ h.own.1,by rw[<-hn];exact hm⟩
  |qt h0 h1 h2 h3 hy ho=>
   have hno:=h1 k1;refine⟨λj hj hjb=>?_,by rw[hni,hy];exact h.own,λj hj hjb=>by rw[hnj j hjb];exact h.vt j hj hjb⟩;rw[hni,hy];rcases h.v j hj hjb with k|⟨a,ha,q1,q2,q3,q4,q5⟩|k
   .exact .inl (hkeep j k)
   .rcases hout _ ha with e2|e2;.subst e2;exact Gr ⟨hst.1,Om,q3⟩ hno
    exact .inr (.inl ⟨a,by rw[hq'];exact GT _ e2,q1,q2,q3,q4,q5⟩)
   exact .inr (.inr k)
  |low hk ht hy ho=>unfold Xv at hk;omega
  |fed hk ht hr hd hf=>unfold Xv at hk;omega
  |hrd hk hr ht hd hh=>omega
def Eqt.round(hn:2<=n/\n<=5)(h:Eqt n t H)(hl:LW n (c+1+(n+200)) (d+n) H):Stab n (H.roundS n)\/(ElR n t H (H.roundS n)/\∀b,b<n->(∀s,s<n->(Sd (H.nd s)↔s=b))->¬∀j,j<n->qD (H.nd b) (H.nd j)):=by
 have hl1:LW n (c+1+200+n) (d+n) H:=by rw[show c+1+200+n=c+1+(n+200)by omega];exact hl
 let⟨hc,ht⟩:=h;have htk:=hc.ticks hn.1 hl1;have hiv:InvL n 0 (H.ticksS n):=InvL.turn (ZT (J:=λp H=>InvL n p H) (λp H1 hp hs hj=>hs.invT hp hj) hc.1 (Gl n) hl1).1;have hid:∀i,i<n->(H.nd i).id=i:=λi hi=>(LW.nd (c:=c+200+n) (by rw[show c+200+n+1=c+1+(n+200)by omega];exact hl) hi).id;by_cases hx:∃s,s<n/\Sd (H.nd s)
 .have hle:=wR htk hiv ht hc.2.2;have noL:∀{H':GS},Calm n H'->¬Led n (t+1) H':=λhc' ⟨_,_,L,hL,hr,_⟩=>hc'.2.2 L hL hr;by_cases hb:∃b,b<n/\(∀s,s<n->(Sd (H.nd s)↔s=b))/\∀j,j<n->qD (H.nd b) (H.nd j)
  .let⟨b,hbn,hlone,hbest⟩:=hb;have hsb:=(hlone b hbn).2 rfl;have h2:El2 n t H b (H.ticksS n):=by
    refine⟨λj hj hjb=>.inl (htk.a b j hbn hsb hj hjb),?_,λj hj hjb=>.inl ?_⟩;.rw[htk.s b hbn hsb];have e:((H.nd b).stood).votes=[((H.nd b).id:Int)]:=rfl;rw[e,hid b hbn];exact⟨by simp,by simp;omega⟩
    have:¬Sd (H.nd j):=λhd=>hjb ((hlone j hj).1 hd);rw[htk.w j hj this];exact ht j hj
   rcases aT hn.2 hc hl (J:=λH1=>Led n (t+1) H1\/(Elc n t H H1/\El2 n t H b H1)) (.inr ⟨hle,h2⟩) (λm l H1 hs hq hj=>by
    rcases hj with hj|⟨hj1,hj2⟩;.exact .inl (hj.del hs hq)
    rcases hj1.del hid ht hs hq with k|k;.exact .inl k
    exact .inr ⟨k,hj2.del hbn hid ht hlone hbest hj1 hs hq k⟩)with h1|⟨h1,h3⟩
   .exact .inl h1
   exfalso;rcases h3 with h3|⟨h3,h4⟩
   .exact noL h1 h3
   have hall:∀j:Nat,j<n->(j:Int)∈((H.roundS n).nd b).votes:=λj hj=>by
    by_cases e:j=b;.rw[e];exact h4.own.1
    rcases h4.v j hj e with k|⟨a,ha,_⟩|k;.rw[h1.2.1]at k;cases k
    .rw[h1.2.1]at ha;cases ha
    exact k
   have:=tq n _ hall;have:=h4.own.2;omega
  rcases aT hn.2 hc hl (J:=λH1=>Led n (t+1) H1\/Elc n t H H1) (.inr hle) (λm l H1 hs hq hj=>by
   rcases hj with hj|hj;.exact .inl (hj.del hs hq)
   exact hj.del hid ht hs hq)with h1|⟨h1,h3⟩
  .exact .inl h1
  rcases h3 with h3|h3;.exact Gr h3 (noL h1)
  have hq:=h1.2.1;let⟨s0,hs0,hsd0⟩:=hx;have hns:∀j,j<n->¬Sd (H.nd j)->((H.roundS n).nd j).g.term=t+1/\((((H.roundS n).nd j).patience=(H.nd j).patience+1/\∀s,s<n->Sd (H.nd s)->¬qD (H.nd s) (H.nd j))\/(((H.roundS n).nd j).patience=0/\∃s,s<n/\Sd (H.nd s)/\qD (H.nd s) (H.nd j))):=λj hj hd=>by
   rcases(h3.ns j hj hd).2 with⟨_,_,k⟩|⟨k1,_,k2⟩
   .have:=k s0 hs0 hsd0;rw[hq]at this;cases this
   refine⟨k1,k2.imp (λ⟨_,p1,p2⟩=>⟨p1,λs hs hsd=>?_⟩) (λ⟨_,p1,p2⟩=>⟨p1,p2⟩)⟩;rcases p2 s hs hsd with p2|p2
   .rw[hq]at p2;cases p2
   exact p2
  refine .inr ⟨⟨⟨t+1,⟨h1,λj hj=>?_⟩,λ_=>rfl,λh=>Gr ⟨s0,hs0,hsd0⟩ h⟩,h3.lg,λs hs hd=>(h3.st s hs hd).2.2,λj hj hd=>(hns j hj hd).2⟩,λb hbn hlone hbest=>hb ⟨b,hbn,hlone,hbest⟩⟩;by_cases hd:Sd (H.nd j);.exact(h3.st j hj hd).2.1
  exact(hns j hj hd).1
 have hq:(H.ticksS n).q=[]:=by
  cases hqq:(H.ticksS n).q with
  |nil=>rfl
  |cons a r=>
   let⟨s,j,hs,hsd,_⟩:=htk.q a (by rw[hqq];simp);exact Gr ⟨s,hs,hsd⟩ hx
 have er:H.roundS n=H.ticksS n:=ff hq 200;have hw:∀i,i<n->(H.ticksS n).nd i={H.nd i with patience:=(H.nd i).patience+1}:=λi hi=>htk.w i hi (λhd=>hx ⟨i,hi,hd⟩);rw[er];refine .inr ⟨⟨⟨t,⟨⟨hiv,hq,λi hi=>by rw[hw i hi];exact hc.2.2 i hi⟩,λj hj=>by rw[hw j hj];exact ht j hj⟩,λh=>Gr h hx,λ_=>rfl⟩,λi hi=>by rw[hw i hi];exact⟨rfl,rfl,rfl⟩,λs hs hd=>Gr ⟨s,hs,hd⟩ hx,λj hj hd=>.inl ⟨by rw[hw j hj],λs hs hsd=>Gr ⟨s,hs,hsd⟩ hx⟩⟩,λb hbn hlone _=>hx ⟨b,hbn,(hlone b hbn).2 rfl⟩⟩
set_option maxRecDepth 100000
def ur(i t:Nat):Nat:=10+(7*i+3*t)%11
def ob(t:Nat):Nat->List Nat->List Bool
 |_,[]=>[]
 |i,p::ps=>Nat.ble (ur i t) (p+1)::ob t (i+1) ps
def m8:List Bool->List Bool->List Nat->List (List Nat)
 |true::st,_::bs,_::ps=>(m8 st bs ps).map (0::·)
 |false::st,true::bs,p::ps=>(m8 st bs ps).map ((p+1)::·)
 |false::st,false::bs,p::ps=>(m8 st bs ps).map (0::·)++(m8 st bs ps).map ((p+1)::·)
 |_,_,_=>[[]]
def iW:List Bool->List Bool->Bool
 |s::st,b::bs=>(s&&b)||iW st bs
 |_,_=>false
def jI:List Bool->Nat
 |[]=>0
 |true::l=>jI l+1
 |false::l=>jI l
def Bg:List Bool->Nat
 |[]=>1
 |true::l=>2*Bg l+1
 |false::l=>2*Bg l
def tabL:List (List Nat):=[[],[],[],[],[],[10,13,19,16,11,17,20,17,12,18,15],[20,14,12,15,12,10,13,16,13,11,14],[10,13,12,15,11,10,13,16,12,11,14],[],[10,13,19,12,11,17,20,13,12,18,11],[20,14,12,18,12,10,13,19,13,11,20],[10,13,12,12,11,10,13,13,12,11,11],[16,19,13,11,20,20,14,12,18,12,10],[10,13,13,11,11,17,14,12,12,12,10],[16,14,12,11,12,10,13,12,13,11,10],[10,13,12,11,11,10,13,12,12,11,10],[],[10,19,34,32,17,20,33,31,18,18,11],[20,13,12,18,11,10,13,19,12,11,20],[10,13,12,22,11,10,13,24,12,11,11],[19,19,13,11,20,20,14,12,18,12,10],[10,16,13,11,17,17,14,12,15,12,10],[16,13,12,11,11,10,13,12,12,11,10],[10,13,12,11,11,10,13,12,12,11,10],[12,12,30,28,10,16,35,33,11,20,32],[10,12,30,28,10,16,32,30,11,17,11],[12,12,12,22,10,10,13,24,11,11,17],[10,12,12,22,10,10,13,24,11,11,11],[12,12,13,11,10,16,14,12,11,12,10],[10,12,13,11,10,16,14,12,11,12,10],[12,12,12,11,10,10,13,12,11,11,10],[10,12,12,11,10,10,13,12,11,11,10],[],[10,19,48,44,20,32,35,31,18,18,11],[35,31,18,18,11,10,19,45,43,20,31],[10,35,23,22,11,10,28,27,23,14,11],[19,19,12,11,20,20,13,12,18,11,10],[10,16,12,11,17,17,13,12,15,11,10],[24,24,12,11,11,10,13,12,22,11,10],[10,24,12,11,11,10,13,12,22,11,10],[12,12,62,58,10,46,49,45,11,32,32],[10,12,47,43,10,31,34,30,11,17,11],[12,12,23,22,10,10,31,30,11,17,17],[10,12,23,22,10,10,28,27,11,14,11],[12,12,12,11,10,16,13,12,11,11,10],[10,12,12,11,10,16,13,12,11,11,10],[12,12,12,11,10,10,13,12,11,11,10],[10,12,12,11,10,10,13,12,11,11,10],[37,33,11,20,32,12,12,47,45,10,33],[10,37,11,24,14,12,12,23,23,10,11],[34,30,11,17,11,10,12,44,42,10,30],[10,35,11,22,11,10,12,23,23,10,11],[24,24,11,11,17,12,12,12,22,10,10],[10,24,11,11,14,12,12,12,22,10,10],[24,24,11,11,11,10,12,12,22,10,10],[10,24,11,11,11,10,12,12,22,10,10],[12,12,11,24,10,12,12,23,11,10,16],[10,12,11,24,10,12,12,23,11,10,11],[12,12,11,22,10,10,12,23,11,10,16],[10,12,11,22,10,10,12,23,11,10,11],[12,12,11,11,10,12,12,12,11,10,10],[10,12,11,11,10,12,12,12,11,10,10],[12,12,11,11,10,10,12,12,11,10,10],[10,12,11,11,10,10,12,12,11,10,10]]
def fJ(bs:List Bool)(t:Nat):Nat:=(tabL.getD (Bg bs) []).getD t 0
def iF:Nat->List Bool->Nat->List Nat->Bool
 |0,_,_,_=>false
 |f+1,bs,t,ps=>
  if jI (ob t 0 ps)=0 then iF f bs t (ps.map (·+1))
  else if iW (ob t 0 ps) bs=true then Nat.beq (jI (ob t 0 ps)) 1||Nat.ble (fJ bs ((t+1)%11)) f
  else(m8 (ob t 0 ps) bs ps).all (iF f bs ((t+1)%11))
def ma:Nat->List (List Bool)
 |0=>[[]]
 |n+1=>(ma n).map (true::·)++(ma n).map (false::·)
def EP:Bool:=[2,3,4,5].all λn=>(ma n).all λbs=> !(iW bs bs)||(List.range 11).all λt=>iF (fJ bs t) bs t (bs.map λ_=>0)
def EO:EP=true:=Kr
def YX{α:Type}(f:Nat->α):Nat->Nat->List α
 |_,0=>[]
 |i,n+1=>f i::YX f (i+1) n
def oW{α β:Type}(f:Nat->α)(g:α->β):∀(n i:Nat),(YX f i n).map g=YX (λk=>g (f k)) i n
 |0,_=>rfl
 |n+1,i=>by show g (f i)::(YX f (i+1) n).map g=_;rw[oW f g n];rfl
def oc(t:Nat)(p:Nat->Nat)(i:Nat):Bool:=Nat.ble (ur i t) (p i+1)
def AS(t:Nat)(p:Nat->Nat):∀(n i:Nat),ob t i (YX p i n)=YX (oc t p) i n
 |0,_=>rfl
 |n+1,i=>by show _::ob t (i+1) (YX p (i+1) n)=_;rw[AS t p n];rfl
def i8{s:Nat->Bool}:∀(n i:Nat),jI (YX s i n)=0->∀k,i<=k->k<i+n->s k=false
 |0,_,_,k,h1,h2=>Om
 |n+1,i,h,k,h1,h2=>by
  have h:jI (s i::YX s (i+1) n)=0:=h;cases hs:s i with
  |true=>rw[hs]at h;exact Gr (show jI (YX s (i+1) n)+1=0 from h) Om
  |false=>
   rw[hs]at h;by_cases e:k=i;.rw[e];exact hs
   exact i8 n (i+1) h k Om Om
def td{s:Nat->Bool}:∀(n i:Nat),¬jI (YX s i n)=0->∃k,i<=k/\k<i+n/\s k=true
 |0,_,h=>Gr rfl h
 |n+1,i,h=>by
  cases hs:s i with
  |true=>exact⟨i,Gl _,Om,hs⟩
  |false=>
   have h:¬jI (s i::YX s (i+1) n)=0:=h;rw[hs]at h;let⟨k,a,b,c⟩:=td n (i+1) h;exact⟨k,Om,Om,c⟩
def te{s:Nat->Bool}:∀(n i:Nat),jI (YX s i n)=1->∀k j,i<=k->k<i+n->i<=j->j<i+n->s k=true->s j=true->k=j
 |0,_,_,k,_,h1,h2,_,_,_,_=>Om
 |n+1,i,h,k,j,h1,h2,h3,h4,h5,h6=>by
  have h:jI (s i::YX s (i+1) n)=1:=h;cases hs:s i with
  |true=>
   rw[hs]at h;have h0:jI (YX s (i+1) n)=0:=by have:jI (YX s (i+1) n)+1=1:=h;omega
   have key:∀q,i<=q->q<i+(n+1)->s q=true->q=i:=λq a b c=>by
    by_cases e:q=i;.exact e
    have:=i8 n (i+1) h0 q Om Om;rw[c]at this;cases this
   rw[key k h1 h2 h5,key j h3 h4 h6]
  |false=>
   rw[hs]at h;have key:∀q,i<=q->s q=true->i+1<=q:=λq a c=>by
    by_cases e:q=i;.rw[e,hs]at c;cases c
    omega
   exact te n (i+1) h k j (key k h1 h5) Om (key j h3 h6) Om h5 h6
def kF{s b:Nat->Bool}:∀(n i:Nat),iW (YX s i n) (YX b i n)=true↔∃k,i<=k/\k<i+n/\s k=true/\b k=true
 |0,i=>⟨(λh=>by cases h),λ⟨k,a,b,_⟩=>Om⟩
 |n+1,i=>by
  have ih:=kF (s:=s) (b:=b) n (i+1);show((s i&&b i)||iW (YX s (i+1) n) (YX b (i+1) n))=true↔_;rw[HZ,G6,ih];constructor
  .rintro(⟨h1,h2⟩|⟨k,a,b,c⟩);.exact⟨i,Gl _,Om,h1,h2⟩
   exact⟨k,Om,Om,c⟩
  rintro⟨k,h1,h2,h3⟩;by_cases e:k=i;.subst e;exact .inl h3
  exact .inr ⟨k,Om,Om,h3⟩
def Bh{s b:Nat->Bool}{p q:Nat->Nat}:∀(n i:Nat),(∀k,i<=k->k<i+n->(s k=true->q k=0)/\(s k=false->b k=true->q k=p k+1)/\(q k=0\/q k=p k+1))->YX q i n∈m8 (YX s i n) (YX b i n) (YX p i n)
 |0,i,_=>by simp[YX,m8]
 |n+1,i,h=>by
  have ih:=Bh n (i+1) (λk h1 h2=>h k Om Om);let⟨h1,h2,h3⟩:=h i (Gl _) Om;show q i::YX q (i+1) n∈m8 (s i::YX s (i+1) n) (b i::YX b (i+1) n) (p i::YX p (i+1) n);cases hs:s i with
  |true=>
   rw[h1 hs];exact Gu.2 ⟨_,ih,rfl⟩
  |false=>
   cases hb:b i with
   |true=>
    rw[h2 hs hb];exact Gu.2 ⟨_,ih,rfl⟩
   |false=>
    rcases h3 with h3|h3;.rw[h3];exact GT _ (Gu.2 ⟨_,ih,rfl⟩)
    rw[h3];exact HH _ (Gu.2 ⟨_,ih,rfl⟩)
def tu(b:Nat->Bool):∀(n i:Nat),YX b i n∈ma n
 |0,i=>by simp[YX,ma]
 |n+1,i=>by
  have ih:=tu b n (i+1);show b i::YX b (i+1) n∈_;unfold ma;cases b i with
  |true=>exact GT _ (Gu.2 ⟨_,ih,rfl⟩)
  |false=>exact HH _ (Gu.2 ⟨_,ih,rfl⟩)
def DA:(tabL.all λr=>r.all λx=>Nat.ble x 62)=true:=Kr
def DB(bs:List Bool)(t:Nat):fJ bs t<=62:=by
 have h:=DA;rw[Hm]at h;unfold fJ;rw[Gt,Gt];cases h1:tabL[Bg bs]? with
 |none=>simp
 |some r=>
  have h2:=h r (Gv h1);rw[Hm]at h2;cases h3:r[t]? with
  |none=>simp[h3]
  |some x=>simpa[h3]using Gz (h2 x (Gv h3))
def wX(hn:2<=n/\n<=5){b:Nat->Bool}(hb:∃k,k<n/\b k=true){t:Nat}(ht:t<11):iF (fJ (YX b 0 n) t) (YX b 0 n) t (YX (λ_=>0) 0 n)=true:=by
 have h:=EO;unfold EP at h;rw[Hm]at h;have h1:=h n (by simp;omega);rw[Hm]at h1;have h2:=h1 _ (tu b n 0);have h3:iW (YX b 0 n) (YX b 0 n)=true:=(kF n 0).2 (by obtain⟨k,a,c⟩:=hb;exact⟨k,He _,Om,c,c⟩);rw[h3]at h2;simp only[Bool.not_true,Bool.false_or]at h2;rw[Hm]at h2;have h4:=h2 t (KE.2 ht);rw[oW]at h4;exact h4
def dh(n:Nat)(H:GS)(i:Nat):Prop:=∀j,j<n->qD (H.nd i) (H.nd j)
def ReachS(n j:Nat)(H:GS):Prop:=∃i,i<=j/\Stab n (H.roundsS n i)
def ReachS.one(h:ReachS n j (H.roundS n)):ReachS n (j+1) H:=by
 let⟨i,hi,h⟩:=h;exact⟨i+1,Om,by rw[XP];exact h⟩
def ReachS.now(h:Stab n (H.roundS n)):ReachS n (j+1) H:=⟨1,Om,by rw[XP];exact h⟩
def ReachS.le{k:Nat}(h:ReachS n j H)(hk:j<=k):ReachS n k H:=by
 let⟨i,hi,h⟩:=h;exact⟨i,Om,h⟩
def tj(H:GS):∀n,1<=n->∃b,b<n/\∀j,j<n->qD (H.nd b) (H.nd j)
 |1,_=>⟨0,by omega,λj hj=>by rw[show j=0 by omega];rcases pB (a:=H.nd 0) (b:=H.nd 0)with h|h<;>exact h⟩
 |n+2,_=>by
  let⟨b,hb,h⟩:=tj H (n+1) Om;rcases pB (a:=H.nd b) (b:=H.nd (n+1))with k|k
  .exact⟨b,by omega,λj hj=>by
    by_cases e:j=n+1;.rw[e];exact k
    exact h j Om⟩
  exact⟨n+1,by omega,λj hj=>by
   by_cases e:j=n+1;.rw[e];rcases pB (a:=H.nd (n+1)) (b:=H.nd (n+1))with h|h<;>exact h
   exact pz k (h j Om)⟩
def ElR.bst(h:ElR n t H H')(hi:i<n):dh n H' i↔dh n H i:=by
 unfold dh;constructor;.intro k j hj;exact(pA (h.lg i hi)).1 ((gW (h.lg j hj)).1 (k j hj))
 intro k j hj;exact(pA (h.lg i hi)).2 ((gW (h.lg j hj)).2 (k j hj))
def ElR.zero(h:ElR n t H H'){s:Nat}(hs:s<n)(hd:Sd (H.nd s))(hb:dh n H s):∀j,j<n->(H'.nd j).patience=0:=λj hj=>by
 by_cases hdj:Sd (H.nd j);.exact h.st j hj hdj
 rcases h.ns j hj hdj with⟨_,k⟩|⟨k,_⟩;.exact Gr (hb j hj) (k s hs hd)
 exact k
def ElR.wait(h:ElR n t H H')(hno:∀s,s<n->Sd (H.nd s)->¬dh n H s)(hj:j<n)(hb:dh n H j):(H'.nd j).patience=(H.nd j).patience+1:=by
 rcases h.ns j hj (λhd=>hno j hj hd hb)with⟨k,_⟩|⟨_,s,hs,hd,k⟩;.exact k
 exact Gr (λq hq=>pz k (hb q hq)) (hno s hs hd)
def DO(h1:x.id=i)(h2:x.g.term=t)(h3:x.patience=p):Sd x↔Nat.ble (ur i (t%11).toNat) (p+1)=true:=by
 unfold Sd YA ur;rw[h1,h2,h3,Nat.ble_eq];omega
def DM(hn:2<=n/\n<=5){b:Nat->Bool}(hbx:∃k,k<n/\b k=true):∀(f:Nat) {c d:Nat} {H:GS} {t:Int} {p:Nat->Nat},Eqt n t H->(∀i,i<n->(H.nd i).patience=p i)->(∀i,i<n->(b i=true↔dh n H i))->iF f (YX b 0 n) (t%11).toNat (YX p 0 n)=true->LW n (c+1+f*(n+200)) (d+f*n) H->ReachS n f H:=by
 intro f;induction f using Nat.strongRecOn with
 |_ f ih=>
  intro c d H t p he hp hb hseg hl;cases f with
  |zero=>exact Gr hseg (by simp[iF])
  |succ f=>
   have hl1:LW n (c+f*(n+200)+1+(n+200)) (d+f*n+n) H:=by
    rw[show c+f*(n+200)+1+(n+200)=c+1+(f+1)*(n+200)by rw[G4];omega,show d+f*n+n=d+(f+1)*n by rw[G4];omega];exact hl
   have hid:∀i,i<n->(H.nd i).id=i:=λi hi=>(LW.nd (c:=c+f*(n+200)+(n+200)) (by rw[show c+f*(n+200)+(n+200)+1=c+f*(n+200)+1+(n+200)by omega];exact hl1) hi).id;have hl2:LW n (c+1+f*(n+200)) (d+f*n) (H.roundS n):=LW.round (by rw[show c+1+f*(n+200)+(n+200)=c+f*(n+200)+1+(n+200)by omega];exact hl1);have hsd:∀i,i<n->(Sd (H.nd i)↔oc (t%11).toNat p i=true):=λi hi=>DO (hid i hi) (he.2 i hi) (hp i hi);rcases he.round hn hl1 with h1|⟨h1,h2⟩
   .exact ReachS.now h1
   let⟨u,hu,hu1,hu2⟩:=h1.e;have hb':∀i,i<n->(b i=true↔dh n (H.roundS n) i):=λi hi=>(hb i hi).trans (h1.bst hi).symm;unfold iF at hseg;rw[AS]at hseg;by_cases hc0:jI (YX (oc (t%11).toNat p) 0 n)=0
   .
    rw[an hc0,oW]at hseg
    have hno:∀i,i<n->¬Sd (H.nd i):=λi hi hd=>by
     have:=i8 n 0 hc0 i (He _) Om
     rw[(hsd i hi).1 hd]at this;cases this
    have hut:u=t:=hu2 (λ⟨s,hs,hd⟩=>hno s hs hd)
    subst hut
    refine(ih f Om hu (p:=λk=>p k+1) (λi hi=>?_) hb' hseg hl2).one
    rcases h1.ns i hi (hno i hi)with⟨k,_⟩|⟨_,s,hs,hd,_⟩
    .rw[k,hp i hi];rfl
    .exact Gr hd (hno s hs)
   rw[ac hc0]at hseg;let⟨s0,_,hs0,hst0⟩:=td n 0 hc0;have hs0:s0<n:=by omega
   have hut:u=t+1:=hu1 ⟨s0,hs0,(hsd s0 hs0).2 hst0⟩;subst hut;have et:((t+1)%11).toNat=((t%11).toNat+1)%11:=by omega
   by_cases hh:iW (YX (oc (t%11).toNat p) 0 n) (YX b 0 n)=true
   .rw[an hh]at hseg;let⟨s,_,hs,hst,hbs⟩:=(kF n 0).1 hh;have hs:s<n:=by omega
    have hds:=(hsd s hs).2 hst;have hbb:=(hb s hs).1 hbs;rw[HZ]at hseg;rcases hseg with hseg|hseg
    .
     have hone:=Is hseg
     refine Gr hbb (h2 s hs (λq hq=>⟨λhd=>?_,λe=>by rw[e];exact hds⟩))
     exact te n 0 hone q s (He _) Om (He _) Om ((hsd q hq).1 hd) hst
    have hle:=Gz hseg;have hz:=h1.zero hs hds hbb;have hck:=wX hn hbx (t:=((t%11).toNat+1)%11) Om;rw[<-et]at hck hle;refine(ReachS.le (ih (fJ (YX b 0 n) ((t+1)%11).toNat) Om (c:=c) (d:=d) hu (p:=λ_=>0) (λi hi=>by rw[hz i hi];rfl) hb' hck (hl2.leq ?_ ?_)) hle).one;.have:=Hv (n+200) hle;omega
    have:=Hv n hle;omega
   rw[ac hh,Hm]at hseg;have hno:∀s,s<n->Sd (H.nd s)->¬dh n H s:=λs hs hd hbb=>hh ((kF n 0).2 ⟨s,He _,by omega,(hsd s hs).1 hd,(hb s hs).2 hbb⟩);have hq:∀k,k<n->(oc (t%11).toNat p k=true->((H.roundS n).nd k).patience=0)/\(oc (t%11).toNat p k=false->b k=true->((H.roundS n).nd k).patience=p k+1)/\(((H.roundS n).nd k).patience=0\/((H.roundS n).nd k).patience=p k+1):=λk hk=>by
    refine⟨λh=>h1.st k hk ((hsd k hk).2 h),λh hbk=>by rw[h1.wait hno hk ((hb k hk).1 hbk),hp k hk],?_⟩;by_cases hd:Sd (H.nd k);.exact .inl (h1.st k hk hd)
    rcases h1.ns k hk hd with⟨e,_⟩|⟨e,_⟩;.exact .inr (by rw[e,hp k hk])
    exact .inl e
   have hm:=Bh (s:=oc (t%11).toNat p) (b:=b) (p:=p) (q:=λk=>((H.roundS n).nd k).patience.toNat) n 0 (λk _ hk=>by
    let⟨a1,a2,a3⟩:=hq k Om;exact⟨(λh=>by have:=a1 h;omega),(λh h'=>by have:=a2 h h';omega),by omega⟩)
   have hs2:=hseg _ hm;rw[<-et]at hs2;refine(ih f Om hu (λi hi=>?_) hb' hs2 hl2).one;have:=(hq i hi).2.2;omega
def Bb{n:Nat}(hn:2<=n/\n<=5):∀(r:Nat) {c d:Nat} {H:GS} {t:Int},Eqt n t H->∀{e:Nat},e<n->dh n H e->20<=(H.nd e).patience+r->LW n (c+1+(r+63)*(n+200)) (d+(r+63)*n) H->ReachS n (r+63) H
 |r,c,d,H,t,h,e,he,hb,hp,hl=>by
  have hl1:LW n (c+(r+62)*(n+200)+1+(n+200)) (d+(r+62)*n+n) H:=by
   rw[show c+(r+62)*(n+200)+1+(n+200)=c+1+(r+63)*(n+200)by simp[G4];omega,show d+(r+62)*n+n=d+(r+63)*n by simp[G4];omega];exact hl
  have hl2:LW n (c+1+(r+62)*(n+200)) (d+(r+62)*n) (H.roundS n):=LW.round (by rw[show c+1+(r+62)*(n+200)+(n+200)=c+(r+62)*(n+200)+1+(n+200)by omega];exact hl1);rcases h.round hn hl1 with h1|⟨h1,h2⟩
  .exact ReachS.now (j:=r+62) h1
  let⟨u,hu,_⟩:=h1.e;by_cases hx:∃s,s<n/\Sd (H.nd s)/\dh n H s
  .let⟨s,hs,hd,hbs⟩:=hx;have hz:=h1.zero hs hd hbs;obtain⟨b,hbf⟩:∃b:Nat->Bool,∀i,b i=true↔dh n (H.roundS n) i:=by
    classical
    exact⟨λi=>decide (dh n (H.roundS n) i),λi=>decide_eq_true_iff⟩
   have hbx:∃k,k<n/\b k=true:=⟨e,he,(hbf e).2 ((h1.bst he).2 hb)⟩;have hck:=wX hn hbx (t:=(u%11).toNat) Om;have hle:=DB (YX b 0 n) (u%11).toNat;refine(ReachS.le (DM hn hbx _ (c:=c) (d:=d) hu (p:=λ_=>0) (λi hi=>by rw[hz i hi];rfl) (λi _=>hbf i) hck (hl2.leq ?_ ?_)) (show _<=r+62 by omega)).one;.have:=Hv (n+200) (show fJ (YX b 0 n) (u%11).toNat<=r+62 by omega);omega
   have:=Hv n (show fJ (YX b 0 n) (u%11).toNat<=r+62 by omega);omega
  have hno:∀s,s<n->Sd (H.nd s)->¬dh n H s:=λs hs hd hbs=>hx ⟨s,hs,hd,hbs⟩;have hw:=h1.wait hno he hb;cases r with
  |zero=>
   exfalso;have:=yL (H.nd e).id (H.nd e).g.term;exact hno e he (by unfold Sd;omega) hb
  |succ r=>
   have:=Bb hn r hu he ((h1.bst he).2 hb) Om (c:=c) (d:=d) (by rw[show r+63=r+1+62 by omega];exact hl2);rw[show r+1+63=r+63+1 by omega];exact this.one
def jr(H:GS)(n i:Nat):∀j,H.roundsS n (i+j)=(H.roundsS n i).roundsS n j
 |0=>rfl
 |j+1=>by show(H.roundsS n (i+j)).roundS n=_;rw[jr H n i j];rfl
def ReachS.from(h:ReachS n j (H.roundsS n i)):ReachS n (i+j) H:=by
 let⟨k,hk,h⟩:=h;exact⟨i+k,Om,by rw[jr];exact h⟩
def LW.later{k:Nat}(h:LW n (c+k*(n+200)) (d+k*n) H)(hi:i<=k):LW n (c+(k-i)*(n+200)) (d+(k-i)*n) (H.roundsS n i):=by
 obtain⟨j,rfl⟩:∃j,k=i+j:=⟨k-i,by omega⟩;refine LW.rounds ?_;rw[show i+j-i=j by omega,G4,G4]at*;exact h.leq Om Om
def DF(hn:2<=n/\n<=5){T0:Nat->Int}(h:PhA n T0 H)(ho:∀m∈H.q,rg n T0 m)(hp:yX n H=0)(hq:H.q.length<=4850)(hl:LW n (c+1+162*(n+200)) (d+1+162*n) H):ReachS n 162 H:=by
 let⟨i,hi,h1⟩:=tT hn h ho hp hq (hl.leq (c:=c+1+58*(n+200)) (d:=d+1+58*n) Om Om);have l1:=hl.later (i:=i) Om;rcases h1 with h1|h1
 .exact⟨i,by omega,h1⟩
 let⟨e,he,hm⟩:=oZ (λj=>((H.roundsS n i).nd j).g.term) n Om;have hp0:0<=((H.roundsS n i).nd e).patience:=(LW.nd (c:=0) (d:=0) (l1.leq Om Om) he).pat;have g1:=Hv (n+200) (show 21+83<=162-i by omega);have g2:=Hv n (show 21+83<=162-i by omega);let⟨j,hj,h2⟩:=EA hn 20 h1 he hm Om (c:=c) (d:=d) (l1.leq Om Om);have l2:=LW.later (c:=c+1) (d:=d+1) (n:=n) (k:=21+83) (i:=j) (l1.leq (c:=c+1+(21+83)*(n+200)) (d:=d+1+(21+83)*n) Om Om) Om;rcases h2 with h2|⟨t,h2⟩
 .exact(ReachS.le (j:=i+j) (ReachS.from (j:=j) ⟨j,Gl _,h2⟩) Om)
 let⟨b,hb,hbb⟩:=tj ((H.roundsS n i).roundsS n j) n Om;have g3:=Hv (n+200) (show 83<=21+83-j by omega);have g4:=Hv n (show 83<=21+83-j by omega);have hp1:0<=(((H.roundsS n i).roundsS n j).nd b).patience:=(LW.nd (c:=0) (d:=0) (l2.leq Om Om) hb).pat;have h3:=Bb hn 20 h2 hb hbb Om (c:=c) (d:=d) (l2.leq Om Om);exact ReachS.le (ReachS.from (ReachS.from h3)) Om
def cK(k b i:Int):Int:=if i<b then max 0 ((k-b+7)/8)+1 else max 0 ((k-i+7)/8)
def i9{i:Int}(hk:k<=441)(hb:0<=b)(hi:0<=i):0<=cK k b i/\cK k b i<=56:=by unfold cK;split<;>omega
def C8{i j:Int}(h:i<=j):cK k b j<=cK k b i:=by unfold cK;split<;>split<;>omega
def wM(t k b:Int)(mat:Nat->Int)(m:Msg):Int:=
 if m.kind=0 then 2 else if m.kind=2\/m.kind=4 then(if m.term=t/\(m.kind=4\/m.index<=mat m.to.toNat)then 2*cK k b (zg m)+2 else 116)
 else if m.kind=3 then(if m.ok=true/\m.term=t then 2*cK k b m.index+1 else 115)else 1
def bJ(t k b:Int)(mat:Nat->Int):List Msg->Int
 |[]=>0
 |m::q=>wM t k b mat m+bJ t k b mat q
def gI{t k b:Int}{mat:Nat->Int}:∀(p q:List Msg),bJ t k b mat (p++q)=bJ t k b mat p+bJ t k b mat q
 |[],q=>(Int.zero_add _).symm
 |m::p,q=>by show wM t k b mat m+bJ t k b mat (p++q)=wM t k b mat m+bJ t k b mat p+_;rw[gI p q];omega
def kp(m:Msg):Prop:=0<=m.index
def tg(h:kp m):0<=zg m:=by unfold kp at h;unfold zg;split<;>omega
def Dp{mat:Nat->Int}(hk:k<=441)(hb:0<=b)(hm:kp m):1<=wM t k b mat m/\wM t k b mat m<=116:=by
 have h1:=i9 (k:=k) (b:=b) (i:=zg m) hk hb (tg hm);have h2:=i9 (k:=k) (b:=b) (i:=m.index) hk hb hm;unfold wM;split;.omega
 split;.split<;>omega
 split;.split<;>omega
 omega
def Fc{mat mat':Nat->Int}(hk:k<=441)(hb:0<=b)(hm:kp m)(h:∀j,mat j<=mat' j):wM t k b mat' m<=wM t k b mat m:=by
 have h1:=i9 (k:=k) (b:=b) (i:=zg m) hk hb (tg hm);have h2:=h m.to.toNat;unfold wM;split;.omega
 split
 .by_cases h3:m.term=t/\(m.kind=4\/m.index<=mat m.to.toNat);.rw[an h3,an ⟨h3.1,h3.2.imp id (λh=>Om)⟩];omega
  rw[ac h3];split<;>omega
 split<;>omega
def uY{t k b:Int}{mat mat':Nat->Int}(hk:k<=441)(hb:0<=b)(h:∀j,mat j<=mat' j):∀{q:List Msg},(∀m∈q,kp m)->bJ t k b mat' q<=bJ t k b mat q
 |[],_=>Gk _
 |m::q,hm=>by
  have h1:=Fc (t:=t) hk hb (hm m Si) h;have h2:=uY (t:=t) hk hb h (q:=q) (λa ha=>hm a (by simp[ha]));show _+_<=_+_;omega
def nr{t k b:Int}{mat:Nat->Int}(hk:k<=441)(hb:0<=b):∀{q:List Msg},(∀m∈q,kp m)->0<=bJ t k b mat q/\bJ t k b mat q<=2*mV q+116*mX q
 |[],_=>by show(0:Int)<=0/\(0:Int)<=_;omega
 |m::q,hm=>by
  have h1:=Dp (t:=t) (mat:=mat) hk hb (hm m Si);have h2:=nr (t:=t) (mat:=mat) hk hb (q:=q) (λa ha=>hm a (by simp[ha]));let⟨v1,x1,_⟩:=bv m q;show 0<=_+_/\_+_<=_;by_cases hv:zd m=true
  .have h3:vI m=1:=by unfold vI;rw[an hv]
   have h4:wM t k b mat m<=2:=by
    unfold zd at hv;simp[HZ,HR]at hv;unfold wM;rcases hv with hv|hv
    .rw[an hv];omega
    rw[ac Om,ac Om,ac Om];omega
   omega
  have h3:vI m=0:=by unfold vI;rw[ac hv]
  omega
structure Cu (n L:Nat) (t k b:Int) (H:GS):Prop where
 led:LedL n L t H
 fo:∀j,j<n->j≠L->(H.nd j).g.term=t/\(H.nd j).role=0
 la:(H.nd L).g.last=k
 ba:(H.nd L).g.base=b
def qw(H:GS)(L j:Nat):Int:=if j=L then 0 else 2*max 0 ((H.nd L).nxt j-1-(H.nd L).mat j)
def yP(n L:Nat)(t k b:Int)(H:GS):Int:=YR n (qw H L)+bJ t k b (λj=>(H.nd L).mat j) H.q
def sL:0<=qw H L j:=by unfold qw;split<;>omega
def AQ(h:LvB n T I Γ H)(hL:L<n)(hj:j<n)(hjL:j≠L)(hr:(H.nd L).role=2)(ht:(H.nd j).g.term=(H.nd L).g.term){F:List Qy}(hF:NodeI n Γ j (H.nd j) F){i:Int}(hi:i<=(H.nd L).mat j):∃c:Nat,i<=c/\Γ.pre F (H.nd L).g.term c:=by
 let⟨FL,bL⟩:=h.nd L hL;let⟨_,_,_,h4⟩:=bL.ni.ld hr;rcases(h4 j hj hjL).2 with h5|h5
 .exact⟨0,Om,He _,rfl⟩
 rw[<-ht]at h5;have h6:=hF.lo.fl _ h5;rw[ht]at h6;exact⟨_,Om,h6⟩
def ge(h:LvB n T I Γ H):∀m∈H.q,kp m:=λm hm=>(h.msg m hm).2.index.1
def Cu.del{n L:Nat}{t k b:Int}(hk:k<=441)(hb:0<=b){H:GS}(h:Cu n L t k b H)(hs:Stp n H (H.delS 0)){m:Msg}{l:List Msg}(hq:H.q=m::l):Cu n L t k b (H.delS 0)/\yP n L t k b (H.delS 0)+1<=yP n L t k b H/\(H.delS 0).q.length<=H.q.length/\((H.delS 0).nd L).patience=(H.nd L).patience/\∀j,j<n->j≠L->(((H.delS 0).nd j).patience=0\/(((H.delS 0).nd j).patience=(H.nd j).patience/\¬Ap L t j m)):=by
 have hled:=h.led.del hs hq;have hd:=hs.dl hq;have hnc:∀i,i<n->NdC n i (H.nd i):=λi hi=>hs.nd hi;let⟨T,I,Γ,T',I',Γ',h1,h2,_,hlen⟩:=hs;let⟨hv,hle,hL,hr,hT⟩:=h.led;have hok:=ge h1;have hok':=ge h2;have hmo:=hok m (by rw[hq];simp);have hlo:∀a∈l,kp a:=λa ha=>hok a (by rw[hq];simp[ha]);have hwm:=Dp (t:=t) (mat:=λj=>(H.nd L).mat j) hk hb hmo;have hqw:yP n L t k b H=YR n (qw H L)+(wM t k b (λj=>(H.nd L).mat j) m+bJ t k b (λj=>(H.nd L).mat j) l):=by unfold yP;rw[hq];rfl
 generalize H.delS 0=H' at hd hled h2 hok';have still:H'.nd L=H.nd L\/(∀j,(H'.nd L).mat j=(H.nd L).mat j)/\(∀j,(H'.nd L).nxt j=(H.nd L).nxt j)/\(H'.nd L).g=(H.nd L).g/\(H'.nd L).patience=(H.nd L).patience->∀(out:List Msg),H'.q=l++out->(out=[]\/∃a,out=[a]/\wM t k b (λj=>(H.nd L).mat j) a+1<=wM t k b (λj=>(H.nd L).mat j) m)->(∀j,j<n->j≠L->(H'.nd j).g.term=t/\(H'.nd j).role=0)->(∀j,j<n->j≠L->((H'.nd j).patience=0\/((H'.nd j).patience=(H.nd j).patience/\¬Ap L t j m)))->
   Cu n L t k b H'/\yP n L t k b H'+1<=yP n L t k b H/\H'.q.length<=H.q.length/\(H'.nd L).patience=(H.nd L).patience/\∀j,j<n->j≠L->((H'.nd j).patience=0\/((H'.nd j).patience=(H.nd j).patience/\¬Ap L t j m)):=λhst out hq' ho hfo hpp=>by
  have hst:(∀j,(H'.nd L).mat j=(H.nd L).mat j)/\(∀j,(H'.nd L).nxt j=(H.nd L).nxt j)/\(H'.nd L).g=(H.nd L).g/\(H'.nd L).patience=(H.nd L).patience:=by
   rcases hst with e|e
   .rw[e];exact⟨λ_=>rfl,λ_=>rfl,rfl,rfl⟩
   .exact e
  let⟨s1,s2,s3,s4⟩:=hst
  have e1:YR n (qw H' L)=YR n (qw H L):=by
   have:qw H' L=qw H L:=IK λj=>by unfold qw;rw[s1,s2]
   rw[this]
  have e2:(λj=>(H'.nd L).mat j)=λj=>(H.nd L).mat j:=IK s1
  refine⟨⟨hled,hfo,by rw[s3];exact h.la,by rw[s3];exact h.ba⟩,?_,?_,s4,hpp⟩
  .rw[hqw]
   unfold yP
   rw[e1,e2,hq',gI]
   rcases ho with ho|⟨a,ho,hw⟩
   .rw[ho];show _+(_+0)+1<=_;omega
   .rw[ho];show _+(_+(wM t k b _ a+0))+1<=_;omega
  .rw[hq',hq,Gm,GD]
   rcases ho with ho|⟨a,ho,_⟩<;>rw[ho]<;>simp
 cases hd with
 |skip hx hnd hq'=>
  refine still (.inl (hnd L)) [] (by rw[hq',HY]) (.inl rfl) (λj hj hjL=>by rw[hnd];exact h.fo j hj hjL) (λj hj hjL=>.inr ⟨by rw[hnd],λ⟨a1,a2,a3,a4⟩=>hx ⟨by unfold Vd;omega,by omega,by omega⟩⟩)
 |go i y out hi hto hvm hnd hq' he hid=>
  have hu:=yN (H.nd i) m.term;have hmt:m.term<=t:=by
   let⟨q,hqn,e⟩:=hv.mt m (by rw[hq];simp) hvm;have:=hle q hqn;omega
  have hti:(H.nd i).g.term=t:=by
   by_cases e:i=L;.rw[e];exact hT
   exact(h.fo i hi e).1
  have hx1:(H.nd i).up m.term=H.nd i:=hu.same Om;rw[hx1]at he;have hni:H'.nd i=y:=by rw[hnd,an rfl]
  have hnj:∀j,j≠i->H'.nd j=H.nd j:=λj e=>by rw[hnd,ac e]
  have hvm2:=hvm;unfold Vd at hvm2;let⟨Fi,bi⟩:=h1.nd i hi;by_cases hiL:i=L
  .subst hiL;have hfo:∀j,j<n->j≠i->(H'.nd j).g.term=t/\(H'.nd j).role=0:=λj hj hji=>by rw[hnj j hji];exact h.fo j hj hji
   have hpp:∀j,j<n->j≠i->((H'.nd j).patience=0\/((H'.nd j).patience=(H.nd j).patience/\¬Ap i t j m)):=λj hj hji=>.inr ⟨by rw[hnj j hji],λ⟨_,_,a3,_⟩=>by omega⟩;have nothing:y=H.nd i->(out=[]\/∃a,out=[a]/\wM t k b (λj=>(H.nd i).mat j) a+1<=wM t k b (λj=>(H.nd i).mat j) m)->_:=λhy ho=>still (.inl (by rw[hni,hy])) out hq' ho hfo hpp;cases he with
   |ask hk0 hy ho=>
    have hg:(H.nd i).grants m=false:=by unfold ND.grants;rw[hr];simp
    rw[hg]at hy ho;refine nothing hy (.inr ⟨_,ho,?_⟩);have e1:wM t k b (λj=>(H.nd i).mat j) ((H.nd i).stamp (ND.voteMsg m false))=1:=rfl;have e2:wM t k b (λj=>(H.nd i).mat j) m=2:=by unfold wM;rw[an hk0]
    omega
   |win hk' hr' ht hok hm hw=>omega
   |vt hk' hr' ht hok hm hy ho=>omega
   |qt h0 h1 h2' h3 hy ho=>exact nothing hy (.inl ho)
   |low hk' ht hy ho=>
    refine nothing hy (.inr ⟨_,ho,?_⟩);have e1:wM t k b (λj=>(H.nd i).mat j) ((H.nd i).stamp {Msg.zero with kind:=3,to:=m.frm,ok:=false,index:=0})=115:=rfl;have e2:wM t k b (λj=>(H.nd i).mat j) m=116:=by
     unfold Xv at hk';unfold wM;rw[ac Om,an hk',ac Om]
    omega
   |fed hk' ht hr' hd hf=>exact Gr hr hr'
   |hrd hk3 hr' ht hd hh=>
    let⟨z,hyz,hoz,hz⟩:=hd;have hpl:=bi.ub.inn.peers hr;let⟨j0,hj0⟩:=Hu hvm.1;have ej:m.frm.toNat=j0:=by omega
    have hj0n:j0<n:=by omega
    have hj0i:j0≠i:=by omega
    have hjl:m.frm.toNat<(H.nd i).peers.length:=by rw[hpl,bi.n];omega
    have hyg:y.g=(H.nd i).g:=hh.c.2.2.2;have hyp:y.patience=(H.nd i).patience:=hh.c.2.2.1;have hpb:=bi.ub.inn.peerb hr m.frm.toNat;have hlast:=h.la;have hbase:=h.ba;have hwmk:wM t k b (λj=>(H.nd i).mat j) m=if m.ok=true/\m.term=t then 2*cK k b m.index+1 else 115:=by unfold wM;rw[ac Om,ac Om,an hk3]
    have fin:(∀j,y.mat j=if j=j0 then y.mat j0 else(H.nd i).mat j)->(∀j,y.nxt j=if j=j0 then y.nxt j0 else(H.nd i).nxt j)->(H.nd i).mat j0<=y.mat j0->(out=[]\/∃a,out=[a])->(2*max 0 (y.nxt j0-1-y.mat j0)+bJ t k b (λj=>y.mat j) out+1<=2*max 0 ((H.nd i).nxt j0-1-(H.nd i).mat j0)+wM t k b (λj=>(H.nd i).mat j) m)->Cu n i t k b H'/\yP n i t k b H'+1<=yP n i t k b H/\H'.q.length<=H.q.length/\(H'.nd i).patience=(H.nd i).patience/\∀j,j<n->j≠i->((H'.nd j).patience=0\/((H'.nd j).patience=(H.nd j).patience/\¬Ap i t j m)):=λf1 f2 f3 f4 f5=>by
     have hmm:∀j,(H.nd i).mat j<=y.mat j:=λj=>by
      rw[f1 j];split;.rename_i e;rw[e];exact f3
      exact Gk _
     have hsum:YR n (qw H' i)+qw H i j0=YR n (qw H i)+qw H' i j0:=bQ hj0n λj _ hj=>by
      unfold qw;rw[hni,f1 j,f2 j,ac hj,ac hj]
     have g1:qw H i j0=2*max 0 ((H.nd i).nxt j0-1-(H.nd i).mat j0):=by unfold qw;rw[ac hj0i]
     have g2:qw H' i j0=2*max 0 (y.nxt j0-1-y.mat j0):=by unfold qw;rw[ac hj0i,hni]
     have hwl:=uY (t:=t) (mat:=λj=>(H.nd i).mat j) (mat':=λj=>y.mat j) hk hb hmm hlo;refine⟨⟨hled,hfo,by rw[hni,hyg];exact h.la,by rw[hni,hyg];exact h.ba⟩,?_,?_,by rw[hni];exact hyp,hpp⟩;.rw[hqw];unfold yP;rw[hni,hq',gI];omega
     rw[hq',hq,Gm,GD];rcases f4 with ho|⟨a,ho⟩<;>rw[ho]<;>simp
    have feedW:y.mat j0+1<=y.nxt j0->wM t k b (λj=>y.mat j) (y.stamp (y.feedMsg j0))<=(if y.nxt j0<=b then 2*cK k b b+2 else if y.nxt j0-1<=y.mat j0 then 2*cK k b (y.nxt j0-1+((y.g.all.drop (y.nxt j0-y.g.base-1).toNat).take 8).length)+2 else 116):=λhn1=>by
     have hyb:y.g.base=b:=by rw[hyg];exact hbase
     have hyt:y.g.term=t:=by rw[hyg];exact hT
     by_cases h5:y.nxt j0<=b
     .rw[an h5,yl (by rw[hyb];exact h5)];have:wM t k b (λj=>y.mat j) (y.stamp {Msg.zero with kind:=4,to:=(j0:Int),index:=y.g.base,logTerm:=y.g.baseT,state:=y.g.state})=2*cK k b y.g.base+2:=by
       unfold wM;rw[ac (by show¬(4:Int)=0;decide),an (.inr rfl),an ⟨hyt,.inl rfl⟩];rfl
      rw[this,hyb];exact Gk _
     rw[ac h5,qE (by rw[hyb];exact h5)];unfold wM;rw[ac (by show¬(2:Int)=0;decide),an (.inl rfl)];by_cases h6:y.nxt j0-1<=y.mat j0;.rw[an h6,an ⟨hyt,.inr h6⟩];exact Gk _
     rw[ac h6,ac];.exact Gk _
     rintro⟨_,h7|h7⟩;.exact Gr (show(2:Int)=4 from h7) Dc
     exact h6 h7
    have hyl:y.g.last=k:=by rw[hyg];exact hlast
    have hyb:y.g.base=b:=by rw[hyg];exact hbase
    by_cases hok2:m.ok=true
    .let⟨y1,y2⟩:=mN bi.out hr ht hok2;rw[<-hz,<-hyz]at y1;rw[<-hz,<-hoz,<-y1]at y2;have hmt':∀j,y.mat j=if j=j0 then Xm (H.nd i) m else(H.nd i).mat j:=λj=>by
      rw[y1,(cv _ j).2,(qS hjl j).2,ej]
     have hnt':∀j,y.nxt j=if j=j0 then Xm (H.nd i) m+1 else(H.nd i).nxt j:=λj=>by
      rw[y1,(cv _ j).1,(qS hjl j).1,ej]
     have q1:y.mat j0=Xm (H.nd i) m:=by rw[hmt',an rfl]
     have q2:y.nxt j0=Xm (H.nd i) m+1:=by rw[hnt',an rfl]
     have hkb:Xm (H.nd i) m<=k/\(H.nd i).mat j0<=Xm (H.nd i) m/\min m.index k<=Xm (H.nd i) m/\0<=Xm (H.nd i) m:=by rw[ej]at hpb;unfold Xm;rw[ej,hlast];omega
     rw[an ⟨hok2,by omega⟩]at hwmk;have hmk:m.index<=k:=by
      rcases(h1.msg m (by rw[hq];simp)).1.ack hk3 hok2 with⟨v,c,_,c1,c2⟩;rcases c2 with c2|c2
      .have:=bi.ub.lb.base;have hl2:(H.nd i).g.last=(H.nd i).g.base+(H.nd i).g.all.length:=rfl;omega
      have c3:=(h1.hi.akl _ _ _ c2).1;let⟨_,l2,_⟩:=bi.ni.ld hr;rw[show m.term=(H.nd i).g.term by omega,l2]at c3;have:=bi.ni.lo.ag.last;omega
     refine fin (λj=>by rw[hmt' j,q1]) (λj=>by rw[hnt' j,q2]) Om ?_ ?_
     .rw[y2];split;.exact .inr ⟨_,rfl⟩
      exact .inl rfl
     rw[q1,q2,y2,hwmk];have hck:=i9 (k:=k) (b:=b) (i:=m.index) hk hb hmo;by_cases h5:Xm (H.nd i) m+1<=(H.nd i).g.last
     .rw[an h5,ej];show _+(wM t k b (λj=>y.mat j) (y.stamp (y.feedMsg j0))+0)+1<=_;have hfw:=feedW Om;rw[q1,q2]at hfw;have hgl:y.g.last=y.g.base+y.g.all.length:=rfl;have hln:(((y.g.all.drop (Xm (H.nd i) m+1-y.g.base-1).toNat).take 8).length:Int)=if Xm (H.nd i) m+1<=b then(((y.g.all.drop (Xm (H.nd i) m+1-y.g.base-1).toNat).take 8).length:Int)else min 8 (k-Xm (H.nd i) m):=by
       split;.rfl
       rw[GX,Hh];omega
      by_cases h6:Xm (H.nd i) m+1<=b
      .rw[an h6]at hfw;have:cK k b m.index=cK k b b+1:=by unfold cK;rw[an Om,ac Om]
       omega
      rw[ac h6,an Om]at hfw;rw[ac h6]at hln;rw[hln]at hfw;have:cK k b (Xm (H.nd i) m+1-1+min 8 (k-Xm (H.nd i) m))+1<=cK k b m.index:=by
       unfold cK;rw[ac Om];split<;>omega
      omega
     rw[ac h5];show _+0+1<=_;omega
    let⟨y1,y2⟩:=po bi.out hr ht (by simpa using hok2);rw[<-hz,<-hyz]at y1;rw[<-hz,<-hoz,<-y1]at y2;have hmt':∀j,y.mat j=(H.nd i).mat j:=λj=>by
     rw[y1,(qS hjl j).2];split;.rename_i e;rw[e];rfl
     rfl
    have hnt':∀j,y.nxt j=if j=j0 then(jh (H.nd i) m).1 else(H.nd i).nxt j:=λj=>by
     rw[y1,(qS hjl j).1,ej]
    have q2:y.nxt j0=max (min ((H.nd i).nxt j0-1) (m.index+1)) ((H.nd i).mat j0+1):=by rw[hnt',an rfl];unfold jh;rw[ej]
    rw[ac (λh=>hok2 h.1)]at hwmk;refine fin (λj=>by rw[hmt' j];split;rename_i e;rw[e,hmt'];rfl) (λj=>by rw[hnt' j,hnt' j0,an rfl]) (by rw[hmt'];exact Gk _) (.inr ⟨_,y2⟩) ?_;rw[y2,ej,hmt',hwmk];show _+(wM t k b (λj=>y.mat j) (y.stamp (y.feedMsg j0))+0)+1<=_;have hfw:=feedW (by rw[hmt',q2];omega);rw[hmt']at hfw;have hcb:=i9 (k:=k) (b:=b) (i:=b) hk hb hb;rw[ej]at hpb;by_cases h6:y.nxt j0<=b;.rw[an h6]at hfw;omega
    rw[ac h6]at hfw;by_cases h7:y.nxt j0-1<=(H.nd i).mat j0;.rw[an h7]at hfw;have hcc:=i9 (k:=k) (b:=b) (i:=y.nxt j0-1+((y.g.all.drop (y.nxt j0-y.g.base-1).toNat).take 8).length) hk hb Om;omega
    rw[ac h7]at hfw;omega
  .
   have hfi:=h.fo i hi hiL
   have hLs:H'.nd L=H.nd L:=hnj L (λe=>hiL e.symm)
   have hgo:y.role=0->y.g.term=t->(out=[]\/∃a,out=[a]/\wM t k b (λj=>(H.nd L).mat j) a+1<=wM t k b (λj=>(H.nd L).mat j) m)->(y.patience=0\/(y.patience=(H.nd i).patience/\¬Ap L t i m))->Cu n L t k b H'/\yP n L t k b H'+1<=yP n L t k b H/\H'.q.length<=H.q.length/\(H'.nd L).patience=(H.nd L).patience/\∀j,j<n->j≠L->((H'.nd j).patience=0\/((H'.nd j).patience=(H.nd j).patience/\¬Ap L t j m)):=λr1 r2 r3 r4=>
    still (.inl hLs) out hq' r3 (λj hj hjL=>by
     by_cases e:j=i
     .subst e;rw[hni];exact⟨r2,r1⟩
     .rw[hnj j e];exact h.fo j hj hjL) (λj hj hjL=>by
     by_cases e:j=i
     .subst e;rw[hni];exact r4
     .rw[hnj j e];exact .inr ⟨rfl,λ⟨_,_,a3,_⟩=>by omega⟩)
   cases he with
   |ask hk0 hy ho=>
    refine hgo (by rw[hy];split<;>exact hfi.2) (by rw[hy];split<;>exact hfi.1) (.inr ⟨_,ho,?_⟩) ?_
    .have e1:wM t k b (λj=>(H.nd L).mat j) ((H.nd i).stamp (ND.voteMsg m ((H.nd i).grants m)))=1:=rfl
     have e2:wM t k b (λj=>(H.nd L).mat j) m=2:=by unfold wM;rw[an hk0]
     omega
    .rw[hy];split
     .exact .inl rfl
     .exact .inr ⟨rfl,λ⟨a1,_⟩=>by unfold Xv at a1;omega⟩
   |win hk' hr' ht hok hm hw=>omega
   |vt hk' hr' ht hok hm hy ho=>omega
   |qt h0 h1 h2' h3 hy ho=>exact hgo (by rw[hy];exact hfi.2) (by rw[hy];exact hfi.1) (.inl ho) (.inr ⟨by rw[hy],λ⟨a1,_⟩=>by have:=(h2' a1).1;omega⟩)
   |low hk' ht hy ho=>
    refine hgo (by rw[hy];exact hfi.2) (by rw[hy];exact hfi.1) (.inr ⟨_,ho,?_⟩) (.inr ⟨by rw[hy],λ⟨_,_,_,a4⟩=>by omega⟩)
    have e1:wM t k b (λj=>(H.nd L).mat j) ((H.nd i).stamp {Msg.zero with kind:=3,to:=m.frm,ok:=false,index:=0})=115:=rfl
    have e2:wM t k b (λj=>(H.nd L).mat j) m=116:=by
     unfold Xv at hk'
     unfold wM;rw[ac Om,an hk',ac Om]
    omega
   |fed hk' ht hr' hd hf=>
    have hmt2:m.term=t:=by omega
    have hfr:m.frm=L:=(hv.ld L hL hr).ow m (by rw[hq];simp) hvm hk' Om
    let⟨z,hyz,hoz,hz⟩:=hd
    let⟨ok,q,r1,r2,r3⟩:=mW h1.hi bi.ni bi.ub (h1.msg m (by rw[hq];simp)).1 hk' Om (z:=(H.nd i).follows m) ⟨rfl,rfl,rfl,rfl⟩ (by show(H.nd i).out=[];exact bi.out)
    rw[<-hz,<-hoz]at r1
    refine hgo hf.c.1 (by rw[hf.c.2.2.2.1];exact hfi.1) (.inr ⟨_,r1,?_⟩) (.inl hf.c.2.2.1)
    have hqm:kp (((H.nd i).follows m).stamp {Msg.zero with kind:=3,to:=m.frm,ok:=ok,index:=q}):=hok' _ (by rw[hq',r1];simp)
    have hqi:0<=q:=hqm
    have e1:wM t k b (λj=>(H.nd L).mat j) (((H.nd i).follows m).stamp {Msg.zero with kind:=3,to:=m.frm,ok:=ok,index:=q})=if ok=true/\(H.nd i).g.term=t then 2*cK k b q+1 else 115:=rfl
    have hcq:=i9 (k:=k) (b:=b) (i:=q) hk hb hqi
    unfold Xv at hk'
    have e2:wM t k b (λj=>(H.nd L).mat j) m=if m.term=t/\(m.kind=4\/m.index<=(H.nd L).mat m.to.toNat)then 2*cK k b (zg m)+2 else 116:=by
     unfold wM;rw[ac Om,an hk']
    rw[e1,e2]
    by_cases h5:m.term=t/\(m.kind=4\/m.index<=(H.nd L).mat m.to.toNat)
    .rw[an h5]
     have hokt:ok=true:=r3 (h5.2.imp id λh6=>by
      rw[hto,Hc]at h6
      let⟨c,c1,c2⟩:=AQ h1 hL hi hiL hr (by rw[hfi.1,hT]) bi.ni h6
      exact⟨c,c1,by rw[hmt2,<-hT];exact c2⟩)
     rw[an ⟨hokt,hfi.1⟩]
     have:=C8 (k:=k) (b:=b) (r2 hokt)
     omega
    .rw[ac h5]
     split<;>omega
   |hrd hk' hr' ht hd hh=>omega
def Pend(L:Nat)(t:Int)(j s:Nat)(H:GS):Prop:=∃A m B,H.q=A++m::B/\A.length<s/\Ap L t j m
def Pend.le{s s':Nat}(h:Pend L t j s H)(hs:s<=s'):Pend L t j s' H:=by
 let⟨A,m,B,a,b,c⟩:=h;exact⟨A,m,B,a,Om,c⟩
def s9{n L:Nat}{t kk b:Int}(hk:kk<=441)(hb:0<=b):∀{k c d:Nat} {H:GS},LW n (c+k) d H->Cu n L t kk b H->Cu n L t kk b (H.delsS k)/\((H.delsS k).q=[]\/yP n L t kk b (H.delsS k)+k<=yP n L t kk b H)/\(H.delsS k).q.length<=H.q.length/\((H.delsS k).nd L).patience=(H.nd L).patience/\(∀j,j<n->j≠L->((H.delsS k).nd j).patience=0\/(((H.delsS k).nd j).patience=(H.nd j).patience/\∀s,Pend L t j s H->k<s/\Pend L t j (s-k) (H.delsS k)))
 |0,c,d,H,h,hc=>⟨hc,.inr (by show yP n L t kk b H+0<=_;omega),Gl _,rfl,λj _ _=>.inr ⟨rfl,λs hp=>⟨by obtain⟨A,_,_,_,b,_⟩:=hp;omega,hp⟩⟩⟩
 |k+1,c,d,H,h,hc=>by
  rw[qW];have h:LW n (c+k+1) d H:=h;cases hq:H.q with
  |nil=>
   rw[yw hq,ff hq]
   exact⟨hc,.inl hq,by rw[hq];exact Gl _,rfl,λj _ _=>.inr ⟨rfl,λs hp=>by
    let⟨A,m,B,a,_⟩:=hp;rw[hq]at a;cases A<;>cases a⟩⟩
  |cons m l=>
   rw[co hq];let⟨h1,h2⟩:=h.dels1;let⟨a1,a2,a3,a4,a5⟩:=hc.del hk hb h2 hq;let⟨b1,b2,b3,b4,b5⟩:=s9 hk hb h1 a1;refine⟨b1,b2.imp id (λb2=>by push_cast;omega),by rw[hq]at a3;exact Hn b3 a3,b4.trans a4,λj hj hjL=>?_⟩;rcases a5 j hj hjL with e|⟨e1,e2⟩
   .left;rcases b5 j hj hjL with f|⟨f,_⟩
    .exact f
    rw[f,e]
   rcases b5 j hj hjL with f|⟨f1,f2⟩;.exact .inl f
   refine .inr ⟨f1.trans e1,λs hp=>?_⟩;let⟨A,x,B,p1,p2,p3⟩:=hp;rw[hq]at p1;cases A with
   |nil=>
    injection p1 with q1 q2
    exact Gr (q1▸p3) e2
   |cons y A=>
    injection p1 with q1 q2
    have hql:∃out,(H.delS 0).q=l++out:=by
     cases h2.dl hq with
     |skip _ _ hq'=>exact⟨[],by rw[hq',HY]⟩
     |go _ _ out _ _ _ _ hq' _ _=>exact⟨out,hq'⟩
    let⟨out,ho⟩:=hql;rw[GD]at p2;have hp':Pend L t j (s-1) (H.delS 0):=⟨A,x,B++out,by rw[ho,q2];simp,by omega,p3⟩;let⟨g1,g2⟩:=f2 _ hp';exact⟨by omega,by rw[show s-(k+1)=s-1-k by omega];exact g2⟩
structure TkR (n L:Nat) (H0:GS) (p:Nat) (H:GS):Prop where
 inv:InvL n p H
 r:∀i,p<=i->H.nd i=H0.nd i
 f:∀i,i<p->i≠L->H.nd i={H0.nd i with patience:=(H0.nd i).patience+1}
 l:L<p->H.nd L={H0.nd L with patience:=if(H0.nd L).patience+1<3 then(H0.nd L).patience+1 else 0}
 q:H.q=H0.q++if L<p/\¬(H0.nd L).patience+1<3 then(H0.nd L).others.map λj=>(H0.nd L).stamp ((H0.nd L).feedMsg j)else[]
def TkR.tick(hp:p<n)(h:TkR n L H0 p H)(hr:(H0.nd L).role=2)(hf:∀j,j<n->j≠L->(H0.nd j).role=0/\(H0.nd j).patience<=8)(hs:Stp n H (H.tickS p)):TkR n L H0 (p+1) (H.tickS p):=by
 have hiv:=hs.invT hp h.inv;let⟨y,out,hnd,hq',ht,hid,hyn⟩:=hs.tk hp;have e0:=h.r p (Gl p);rw[e0]at ht;generalize H.tickS p=H' at hnd hq' hiv;have hni:H'.nd p=y:=by rw[hnd,an rfl]
 have hnj:∀j,j≠p->H'.nd j=H.nd j:=λj e=>by rw[hnd,ac e]
 have hlim:=yL (H0.nd p).id (H0.nd p).g.term;have hrest:∀i,p+1<=i->H'.nd i=H0.nd i:=λi hi=>by rw[hnj i Om];exact h.r i Om
 by_cases hpL:p=L
 .subst hpL;have hff:∀i,i<p+1->i≠p->H'.nd i={H0.nd i with patience:=(H0.nd i).patience+1}:=λi hi hip=>by rw[hnj i hip];exact h.f i Om hip
  have hq0:H.q=H0.q:=by rw[h.q,ac Om,HY]
  cases ht with
  |wait hr' hp' hy ho=>exact Gr hr hr'
  |stand hn1 hr' hp' hy ho=>exact Gr hr hr'
  |one hn1 hr' hp' hw=>exact Gr hr hr'
  |lead hr' hp' hy ho=>exact⟨hiv,hrest,hff,λ_=>by rw[hni,hy,an hp'],by rw[hq',hq0,ho,ac (λh=>h.2 hp')]⟩
  |beat hr' hp' hy ho=>exact⟨hiv,hrest,hff,λ_=>by rw[hni,hy,ac hp'],by rw[hq',hq0,ho,an ⟨Om,hp'⟩]⟩
 let⟨f1,f2⟩:=hf p hp hpL;have hq0:H.q=H0.q++if L<p+1/\¬(H0.nd L).patience+1<3 then(H0.nd L).others.map λj=>(H0.nd L).stamp ((H0.nd L).feedMsg j)else[]:=by
  rw[h.q];congr 1;by_cases e:L<p
  .by_cases e2:(H0.nd L).patience+1<3;.rw[ac (λh=>h.2 e2),ac (λh=>h.2 e2)]
   rw[an ⟨e,e2⟩,an ⟨Om,e2⟩]
  rw[ac (λh=>e h.1),ac Om]
 cases ht with
 |lead hr' hp' hy ho=>omega
 |beat hr' hp' hy ho=>omega
 |stand hn1 hr' hp' hy ho=>omega
 |one hn1 hr' hp' hw=>omega
 |wait hr' hp' hy ho=>
  refine⟨hiv,hrest,λi hi hiL=>?_,λhL=>?_,by rw[hq',ho,HY];exact hq0⟩
  .by_cases e:i=p;.subst e;rw[hni,hy]
   rw[hnj i e];exact h.f i Om hiL
  rw[hnj L (λe=>hpL e.symm)];exact h.l Om
structure Cw (n L:Nat) (t k b r:Int) (H:GS):Prop where
 cu:Cu n L t k b H
 p:0<=(H.nd L).patience/\(H.nd L).patience<=2
 fo:∀j,j<n->j≠L->(H.nd j).patience<=(H.nd L).patience\/∃s:Nat,1<=s/\Pend L t j (200*s) H/\(H.nd j).patience+s<=8
 len:3*(H.q.length:Int)+4*(H.nd L).patience<=500+4*r
def Cw.round(hn:n<=5){r:Int}(hk:k<=441)(hb:0<=b)(hr:r<=300)(h:Cw n L t k b r H)(hl:LW n (c+1+(n+200)) (d+n) H):
  Cw n L t k b (r+1) (H.roundS n)/\((H.roundS n).q=[]\/3*yP n L t k b (H.roundS n)+464*((H.roundS n).nd L).patience+136<=3*yP n L t k b H+464*(H.nd L).patience):=by
 have hl1:LW n (c+1+200+n) (d+n) H:=by rw[show c+1+200+n=c+1+(n+200)by omega];exact hl
 obtain⟨hv,hle,hL,hrl,hT⟩:=h.cu.led;have hnd0:∀i,i<n->NdC n i (H.nd i):=λi hi=>LW.nd (c:=c+200+n) (by rw[show c+200+n+1=c+1+(n+200)by omega];exact hl) hi
 have hf:∀j,j<n->j≠L->(H.nd j).role=0/\(H.nd j).patience<=8:=λj hj hjL=>⟨(h.cu.fo j hj hjL).2,by
  have:=h.p;rcases h.fo j hj hjL with e|⟨s,e1,_,e2⟩<;>omega⟩
 obtain⟨t1,l1⟩:=ZT (J:=TkR n L H) (λp H1 hp hs hj=>hj.tick hp hrl hf hs) ⟨hv,λi _=>rfl,λi hi=>by omega,λhi=>by omega,by rw[ac Om,HY]⟩ (Gl n) hl1;have hLm:=t1.l hL;have hqm:=t1.q;obtain⟨Tm,Im,Γm,_,hlv⟩:=l1.lv;have hokm:=ge hlv;have hgm:((H.ticksS n).nd L).g=(H.nd L).g/\((H.ticksS n).nd L).peers=(H.nd L).peers/\((H.ticksS n).nd L).role=2/\((H.ticksS n).nd L).patience=if(H.nd L).patience+1<3 then(H.nd L).patience+1 else 0:=by rw[hLm];exact⟨rfl,rfl,hrl,rfl⟩
 obtain⟨g1,g2,g3,g4⟩:=hgm;have hfm:∀j,j<n->j≠L->((H.ticksS n).nd j).g=(H.nd j).g/\((H.ticksS n).nd j).role=0/\((H.ticksS n).nd j).patience=(H.nd j).patience+1:=λj hj hjL=>by
  rw[t1.f j hj hjL];exact⟨rfl,(h.cu.fo j hj hjL).2,rfl⟩
 have hcu:Cu n L t k b (H.ticksS n):=by
  refine⟨⟨t1.inv.turn,λj hj=>?_,hL,g3,by rw[g1];exact hT⟩,λj hj hjL=>?_,by rw[g1];exact h.cu.la,by rw[g1];exact h.cu.ba⟩
  .by_cases e:j=L;.rw[e,g1];exact I2 hT
   rw[(hfm j hj e).1];exact hle j hj
  obtain⟨a,b,_⟩:=hfm j hj hjL;rw[a];exact⟨(h.cu.fo j hj hjL).1,b⟩
 obtain⟨fs,hfs⟩:∃fs,fs=(if L<n/\¬(H.nd L).patience+1<3 then(H.nd L).others.map λj=>(H.nd L).stamp ((H.nd L).feedMsg j)else[]):=⟨_,rfl⟩;rw[<-hfs]at hqm;have hfl:fs.length<=4/\mV fs=0/\(fs=[]\/¬(H.nd L).patience+1<3):=by
  rw[hfs];split
  .rename_i e;refine⟨?_,gT λa ha=>?_,.inr e.2⟩;.rw[H8];have:=qY (y:=H.nd L) (by rw[(hnd0 L hL).id,(hnd0 L hL).n];exact hL);have:=(hnd0 L hL).n;omega
   obtain⟨j,_,rfl⟩:=Gu.1 ha;have:=(ZB (H.nd L) j).1;unfold Xv at this;omega
  exact⟨He _,rfl,.inl rfl⟩
 have hphi:yP n L t k b (H.ticksS n)=yP n L t k b H+bJ t k b (λj=>(H.nd L).mat j) fs:=by
  have em:∀j,((H.ticksS n).nd L).mat j=(H.nd L).mat j/\((H.ticksS n).nd L).nxt j=(H.nd L).nxt j:=λj=>by unfold ND.mat ND.nxt;rw[g2];exact⟨rfl,rfl⟩
  have e1:qw (H.ticksS n) L=qw H L:=IK λj=>by unfold qw;rw[(em j).1,(em j).2]
  have e2:(λj=>((H.ticksS n).nd L).mat j)=λj=>(H.nd L).mat j:=IK λj=>(em j).1;unfold yP;rw[e1,e2,hqm,gI];omega
 have hwf:=nr (t:=t) (mat:=λj=>(H.nd L).mat j) hk hb (q:=fs) (λa ha=>hokm a (by rw[hqm];exact HH _ ha));have hvx:=yp fs;obtain⟨d1,d2,d3,d4,d5⟩:=s9 hk hb (k:=200) l1 hcu;have er:H.roundS n=(H.ticksS n).delsS 200:=rfl;rw[<-er]at d1 d2 d3 d4 d5;rw[g4]at d4;have hp:=h.p;have hlen:=h.len;have hlm:(H.ticksS n).q.length=H.q.length+fs.length:=by rw[hqm,Gm]
 refine⟨⟨d1,by rw[d4];split<;>omega,λj hj hjL=>?_,?_⟩,?_⟩
 .obtain⟨a1,a2,a3⟩:=hfm j hj hjL;have hpj:=(hnd0 j hj).pat;rcases d5 j hj hjL with e|⟨e1,e2⟩
  .left;rw[e,d4];split<;>omega
  rw[a3]at e1;rcases h.fo j hj hjL with f|⟨s,f1,f2,f3⟩
  .by_cases hbt:(H.nd L).patience+1<3;.left;rw[e1,d4,an hbt];omega
   have hfeq:fs=(H.nd L).others.map λj=>(H.nd L).stamp ((H.nd L).feedMsg j):=by rw[hfs,an ⟨hL,hbt⟩]
   have hpd:Pend L t j (H.q.length+5) (H.ticksS n):=by
    have hmem:(H.nd L).stamp ((H.nd L).feedMsg j)∈fs:=by
     rw[hfeq];exact Gu.2 ⟨j,jg (by rw[(hnd0 L hL).n];exact hj) (by rw[(hnd0 L hL).id];exact hjL),rfl⟩
    obtain⟨A,B,hAB⟩:=J0 hmem;obtain⟨f1,f2⟩:=ZB (H.nd L) j;refine⟨H.q++A,_,B,by rw[hqm,hAB,GA],?_,f1,GM Int.ofNat (hnd0 L hL).id,f2,hT⟩;rw[Gm];have:=GM List.length hAB;rw[Gm,GD]at this;omega
   obtain⟨x1,x2⟩:=e2 _ hpd;exact .inr ⟨2,by omega,x2.le Om,by omega⟩
  have hpd:Pend L t j (200*s) (H.ticksS n):=by
   obtain⟨A,m,B,y1,y2,y3⟩:=f2;exact⟨A,m,B++fs,by rw[hqm,y1];simp,y2,y3⟩
  obtain⟨x1,x2⟩:=e2 _ hpd;exact .inr ⟨s-1,by omega,x2.le Om,by omega⟩
 .rw[d4];rcases hfl.2.2 with e|e
  .rw[e]at hlm;simp at hlm;split<;>omega
  rw[ac e];omega
 refine d2.imp id λd2=>?_;rw[d4,hphi]at*;rcases hfl.2.2 with e|e
 .rw[e]at d2;have hz:bJ t k b (λj=>(H.nd L).mat j) []=0:=rfl;rw[hz]at d2;split<;>omega
 rw[ac e];omega
def Cw.drain{n L:Nat}(hn:n<=5){t k b:Int}(hk:k<=441)(hb:0<=b):∀(m:Nat) {r:Int} {c d:Nat} {H:GS},Cw n L t k b r H->r+m<=300->3*yP n L t k b H+464*(H.nd L).patience<136*m->LW n (c+1+m*(n+200)) (d+m*n) H->∃i,i<=m/\(H.roundsS n i).q=[]/\∃r',Cw n L t k b r' (H.roundsS n i)
 |0,r,c,d,H,h,hr,hp,hl=>by
  exfalso
  let⟨Tm,Im,Γm,_,hlv⟩:=hl.lv
  have h1:=nr (t:=t) (mat:=λj=>(H.nd L).mat j) hk hb (ge hlv)
  have h2:=yB (f:=λ_=>0) (g:=qw H L) (n:=n) (λj _=>sL)
  have h0:∀n,YR n (λ_=>(0:Int))=0:=λn=>by
   induction n with
   |zero=>rfl
   |succ n ih=>unfold YR;rw[ih];rfl
  rw[h0]at h2
  have:=h.p
  unfold yP at hp
  omega
 |m+1,r,c,d,H,h,hr,hp,hl=>by
  have hl1:LW n (c+m*(n+200)+1+(n+200)) (d+m*n+n) H:=by
   rw[show c+m*(n+200)+1+(n+200)=c+1+(m+1)*(n+200)by rw[G4];omega,show d+m*n+n=d+(m+1)*n by rw[G4];omega];exact hl
  let⟨h1,h2⟩:=h.round hn hk hb Om hl1
  rcases h2 with h2|h2
  .exact⟨1,by omega,by rw[XP];exact h2,r+1,by rw[XP];exact h1⟩
  .let⟨i,hi,a,b⟩:=Cw.drain hn hk hb m h1 Om Om (c:=c) (d:=d) (LW.round (by rw[show c+1+m*(n+200)+(n+200)=c+m*(n+200)+1+(n+200)by omega];exact hl1))
   exact⟨i+1,by omega,by rw[XP];exact a,by rw[XP];exact b⟩
def LW.mem{n c d:Nat}{H:GS}(h:LW n c d H):∃(T I:Int) (Γ:GH),10*I+d<=5700/\LvB n T I Γ H/\∀i,i<n->∃m F,H.ms[i]?=some m/\NdB n T I Γ i m.x F/\m.l=Yh (F.take m.ap.toNat):=by
 obtain⟨G,Γ,⟨hj,hl⟩,hs,rfl⟩:=h;obtain⟨T,I,h1,h2⟩:=gU hj hl hs;refine⟨T,I,Γ,h1,h2,λi hi=>?_⟩;obtain⟨a,t,I',ha,ht,g⟩:=hj;obtain⟨m,hm⟩:=g.mem hi;have mi:=g.ms i m hm;have u:=mi.up (hl m (Gv hm));obtain⟨F,hF,hll⟩:=(hs.ms i m hm).up (by rw[u.dn];decide);have e:G.er.nd i=m.x:=by rw[qL (e9 hm)];rfl
 obtain⟨F',b⟩:=h2.nd i hi;rw[e]at b;exact⟨m.er,F,e9 hm,⟨hF,b.ub,b.id,b.n,b.out⟩,hll⟩
def APC(H:GS):Prop:=∀(i:Nat) (m:MS),H.ms[i]?=some m->m.ap=m.x.commit
def pR{m:MS}(h1:m.ap<=m.x.commit)(h2:m.x.g.base<=m.x.commit/\m.x.commit<=m.x.g.last)(i:Int)(o:List OC):(doneS i m o).1.ap=m.x.commit:=by
 have hr:m.rest.x=m.x/\m.x.g.base<=m.rest.ap/\m.rest.ap<=m.x.commit:=by
  unfold MS.rest;split;.exact⟨rfl,Gk _,h2.1⟩
  exact⟨rfl,Om,h1⟩
 have e:doneS i m o=doneS i m.rest o:=by
  have:m.rest.rest=m.rest:=by
   rw[show m.rest.rest=if m.rest.x.g.base>m.rest.ap then{m.rest with l:=ZC m.rest.x.g.state,ap:=m.rest.x.g.base}else m.rest from rfl,ac (by rw[hr.1];omega)]
  unfold doneS;rw[this]
 rw[e,sZ (by rw[hr.1];exact hr.2.1)];rw[hr.1];have hl:m.x.g.last=m.x.g.base+m.x.g.all.length:=rfl;show m.rest.ap+_=_;rw[GX,Hh];omega
def APC.tick{n c d p:Nat}{H:GS}(hl:LW n (c+1) (d+1) H)(hp:p<n)(h:APC H):APC (H.tickS p):=by
 let⟨T,I,Γ,_,hv⟩:=hl.lv;let⟨T',I',Γ',_,hv'⟩:=(hl.tick hp).lv;have hlen:=hl.len.1;have hm:H.ms[p]?=some H.ms[p]:=b7 Om;let⟨e1,_⟩:=ew hm;let⟨F,b⟩:=hv.nd p hp;let⟨F',b'⟩:=hv'.nd p hp;have hx:(H.tickS p).nd p=(H.nd p).tickP.q:=by rw[(dE (H:=H) (i:=p) Om).1 p,an rfl]
 rw[hx]at b';have hnd:=qL hm;rw[hnd]at b b';intro i m hi;rw[e1]at hi;refine qn (P:=λ_ m=>m.ap=m.x.commit) (Q:=λ_ m=>m.ap=m.x.commit) h (λ_ _ _ h=>h) ?_ i m hi;have hc:=b.ub.inn.tickP.tr.com;have:=h p _ hm;have hcb:=b'.ub.inn.commit;have e2:(H.ms[p].tickS.1).x=H.ms[p].x.tickP.q:=rfl;rw[bD,pR (by show H.ms[p].ap<=H.ms[p].x.tickP.commit;omega) hcb]
def APC.del{n c d:Nat}{H:GS}(hl:LW n (c+1) d H)(h:APC H):APC H.del1S:=by
 cases hq:H.q with
 |nil=>rw[yw hq];exact h
 |cons m l=>
  rw[co hq];let⟨T,I,Γ,_,hv⟩:=hl.lv;let⟨T',I',Γ',_,hv'⟩:=hl.del.lv;have hlen:=hl.len.1;cases hs:H.st with
  |nil=>unfold GS.q at hq;rw[hs]at hq;cases hq
  |cons x r=>
   have hx:x.2=m:=by unfold GS.q at hq;rw[hs]at hq;injection hq
   by_cases ht:0<=m.to/\m.to<(n:Int)
   .let⟨p,hp⟩:=Hu ht.1;have hpn:p<n:=Om;have hm:H.ms[p]?=some H.ms[p]:=b7 Om;let⟨e1,_⟩:=bE hs (by rw[hx];exact hp) hm;let⟨F,b⟩:=hv.nd p hpn;let⟨F',b'⟩:=hv'.nd p hpn;have hxx:(H.delS 0).nd p=((H.nd p).receiveP m).q:=by rw[(pT hq hp Om).1 p,an rfl]
    rw[hxx]at b';have hnd:=qL hm;rw[hnd]at b b';intro i y hi;rw[e1]at hi;refine qn (P:=λ_ m=>m.ap=m.x.commit) (Q:=λ_ m=>m.ap=m.x.commit) h (λ_ _ _ h=>h) ?_ i y hi;have hc:=(b.ub.inn.receiveP (hv.msg m (by rw[hq];simp)).2.ln).tr.com;have:=h p _ hm;have hcb:=b'.ub.inn.commit;rw[bD,hx,pR (by show H.ms[p].ap<=(H.ms[p].x.receiveP m).commit;omega) hcb]
   have e:(H.delS 0).ms=H.ms:=by
    unfold GS.delS;rw[hs,pr,Bi,an rfl];split;.rename_i h5;have:H.ms[x.2.to.toNat]?=none:=Ho (by rw[hx]at h5|-;omega);rw[this];rfl
    rfl
   intro i y hi;rw[e]at hi;exact h i y hi
def APC.dels{n:Nat}:∀{k c d:Nat} {H:GS},LW n (c+k) d H->APC H->APC (H.delsS k)
 |0,_,_,_,_,h=>h
 |k+1,c,d,H,hl,h=>by
  rw[qW];have hl:LW n (c+k+1) d H:=hl;exact APC.dels hl.del1 (h.del hl)
def APC.ticks{n:Nat}{c d:Nat}{H:GS}(h:APC H):∀{k:Nat},k<=n->LW n (c+k) (d+k) H->APC (H.ticksS k)
 |0,_,_=>h
 |k+1,hk,hl=>by
  have h1:=APC.ticks (n:=n) (c:=c+1) (d:=d+1) h (k:=k) Om (by rw[show c+1+k=c+(k+1)by omega,show d+1+k=d+(k+1)by omega];exact hl);have h2:=(ZT (n:=n) (J:=λ_ _=>True) (λ_ _ _ _ _=>trivial) trivial (c:=c+1) (d:=d+1) (k:=k) Om (by rw[show c+1+k=c+(k+1)by omega,show d+1+k=d+(k+1)by omega];exact hl)).2;rw[zC];exact APC.tick (n:=n) h2 Om h1
def APC.rounds{n:Nat}:∀{k c d:Nat} {H:GS},LW n (c+k*(n+200)) (d+k*n) H->APC H->APC (H.roundsS n k)
 |0,_,_,_,_,h=>h
 |k+1,c,d,H,hl,h=>by
  have hl1:LW n (c+k*(n+200)+200+n) (d+k*n+n) H:=by
   rw[show c+k*(n+200)+200+n=c+(k+1)*(n+200)by rw[G4];omega,show d+k*n+n=d+(k+1)*n by rw[G4];omega];exact hl
  rw[XP];refine APC.rounds (k:=k) (c:=c) (d:=d) (LW.round (by rw[show c+k*(n+200)+(n+200)=c+k*(n+200)+200+n by omega];exact hl1)) ?_;exact APC.dels (k:=200) (LW.ticks hl1) (h.ticks (Gl n) hl1)
def Stab.cw(hn:n<=5)(h:Stab n H)(hl:LW n c (d+1285) H):∃L t k b,k<=441/\0<=b/\Cw n L t k b 0 H/\3*yP n L t k b H+464*(H.nd L).patience<136*214:=by
 let⟨hv,L,hs,hq,hx⟩:=h;have hL:=hs.lt;let⟨T,I,Γ,hI,hb⟩:=hl.lv;let⟨F,b⟩:=hb.nd L hL;have hla:=b.ub.lb.last;have hba:=b.ub.lb.base;have hpp:=b.ub.inn.patience.1;have hsp:=hs.pat;have hk:(H.nd L).g.last<=441:=by push_cast at hI;omega
 refine⟨L,(H.nd L).g.term,(H.nd L).g.last,(H.nd L).g.base,hk,hba,⟨⟨⟨hv,λj hj=>?_,hL,hs.role,rfl⟩,λj hj hjL=>⟨(hs.fo j hj hjL).1,(hs.fo j hj hjL).2.1⟩,rfl,rfl⟩,⟨hpp,hsp⟩,λj hj hjL=>.inl (hs.fo j hj hjL).2.2.2,Om⟩,?_⟩
 .by_cases e:j=L;.rw[e];exact Gk _
  exact I2 (hs.fo j hj e).1
 have h1:=nr (t:=(H.nd L).g.term) (k:=(H.nd L).g.last) (b:=(H.nd L).g.base) (mat:=λj=>(H.nd L).mat j) hk hba (ge hb)
 have h2:=nt (f:=qw H L) (a:=0) (b:=882) (n:=n) (λj hj=>by
  refine⟨sL,?_⟩;unfold qw;split;.omega
  rename_i e;have h3:=((b.ni.ld hs.role).2.2.2 j hj e).1;have h4:=b.ni.lo.ag.last;have h5:=(b.ub.inn.peerb hs.role j).2.1;omega)
 have h6:=yp H.q;unfold yP;omega
def Cw.ps{r:Int}(hn:2<=n\/(H.nd L).commit=k)(h:Cw n L t k b r H)(hq:H.q=[])(ha:APC H)(hl:LW n c d H):∃w p,(0<=p/\p<=2)/\PS n L t k t w p p False H:=by
 let⟨T,I,Γ,_,hv,hm⟩:=hl.mem;let⟨hiv,hle,hL,hr,hT⟩:=h.cu.led;let⟨mL,F,hmL,bL,lL⟩:=hm L hL;have eL:H.nd L=mL.x:=qL hmL;have hlo:=hiv.lo L hL hr;let⟨l1,l2,l3,l4⟩:=bL.ni.ld (by rw[<-eL];exact hr);have hTL:mL.x.g.term=t:=by rw[<-eL];exact hT
 rw[hTL]at l1 l2;have hFk:(F.length:Int)=k:=by rw[<-bL.ni.lo.ag.last,<-eL];exact h.cu.la
 have hmat:∀j,j<n->j≠L->(H.nd L).mat j=k:=λj hj hjL=>by
  rcases hlo.lv (λq hq=>by rw[hT];exact hle q hq) j hj hjL with e|⟨a,ha,_⟩;.rw[e];exact h.cu.la
  rw[hq]at ha;cases ha
 have hcom:(H.nd L).commit=k:=by
  rcases hn with hn|hn;.rw[hlo.cm hn (λj hj hjL=>by rw[hmat j hj hjL];exact h.cu.la.symm)];exact h.cu.la
  exact hn
 have hpos:0<F.length:=by
  have:=(zc hv hL hr).2;rw[h.cu.la]at this;omega
 have hall:∀i,i<n->∃m,H.ms[i]?=some m/\NdB n T I Γ i m.x F/\m.l=Yh (F.take m.ap.toNat):=λi hi=>by
  let⟨m,Fi,hmi,bi,li⟩:=hm i hi;have ei:H.nd i=m.x:=qL hmi;by_cases e:i=L;.subst e;rw[hmL]at hmi;obtain rfl:=GU hmi;exact⟨mL,hmL,bL,lL⟩
  refine⟨m,hmi,?_⟩;have hti:m.x.g.term=t:=by rw[<-ei];exact(h.cu.fo i hi e).1
  let⟨q,q1,q2,q3⟩:=AQ hv hL hi e hr (by rw[(h.cu.fo i hi e).1,hT]) (F:=Fi) (by rw[ei];exact bi.ni) (i:=k) (by rw[hmat i hi e];exact Gk _);rw[hT,l2]at q3;have hFF:Fi=F:=by
   have e1:F.take q=F:=Gx Om;have e2:Fi.take F.length=F:=by
    have:=GM (List.take F.length) q3;rw[Hd,Hj Om,e1,Gx (Gl _)]at this;exact this
   by_cases e3:Fi.length<=F.length;.rw[<-e2,Gx e3]
   exfalso;have hx:=b7 (l:=Fi) (i:=F.length) Om;generalize Fi[F.length]'Om=x at hx;have hpl:=bi.ni.lo.pl;have hy:Fi[F.length-1]?=F[F.length-1]?:=by
    rw[<-e2];rw[I3 (by rw[e2];omega),e2]
   let⟨y,hy1,hy2⟩:=ab (F:=F) (k:=F.length) Om (Gl _);have hyt:y.1=t:=by
    have:=(zc hv hL hr).1;rw[eL,bO bL.ni.lo.ag,hy2,hTL]at this;exact this
   rw[hy1]at hy;have h5:=hpl.mono;rw[Jj]at h5;have h6:=h5 (F.length-1) F.length Om Om Om;have h7:Fi[F.length-1]'Om=y:=by
    have:=b7 (l:=Fi) (i:=F.length-1) Om;rw[hy]at this;exact(GU this).symm
   have h8:Fi[F.length]'Om=x:=by
    have:=b7 (l:=Fi) (i:=F.length) Om;rw[hx]at this;exact(GU this).symm
   rw[h7,h8]at h6;have h9:=bi.ni.lo.tm x (Gv hx);have hxt:x.1=t:=by omega
   have h10:=(hpl.at_ _ _ hx).2;rw[hxt,l2]at h10;have:=GM List.length h10;simp[GX]at this;omega
  subst hFF;exact⟨bi,li⟩
 have hst:H.st=[]:=by
  cases hs:H.st with
  |nil=>rfl
  |cons x q=>unfold GS.q at hq;rw[hs]at hq;cases hq
 refine⟨Yh F,(H.nd L).patience,h.p,hl.len.1,hL,λi m hi=>?_,hst⟩;have hin:i<n:=by have:=(Gj.1 hi).1;rw[hl.len.1]at this;exact this
 let⟨m',hm',bi,li⟩:=hall i hin;rw[hi]at hm';obtain rfl:=GU hm';have ei:H.nd i=m.x:=qL hi;have hag:=bi.ni.lo.ag;have hcm:=bi.ub.inn.commit;have hb0:=hag.b0;have hap:=ha i m hi;have hlast:m.x.g.last=k:=by rw[hag.last];exact hFk
 have hlm:t=ZD F F.length:=by
  have:=(zc hv hL hr).1;rw[eL,bO bL.ni.lo.ag,hTL]at this;exact this.symm
 refine⟨⟨bi.id,bi.n,bi.out,?_,hb0,hlast,?_,?_,hap,⟨by omega,by omega,hcm.2,?_⟩⟩,λe=>?_,λe=>⟨⟨?_,?_⟩,λh=>h.elim⟩⟩
 .by_cases e:i=L;.subst e;rw[<-ei];exact hT
  rw[<-ei];exact(h.cu.fo i hin e).1
 .have h5:=hag.termAt (j:=F.length) ⟨by have:=hag.b;omega,Gl _⟩;rw[hFk]at h5;rw[h5,<-hlm]
 .unfold lY;by_cases hb:m.x.g.base>0;.rw[an hb,bi.ni.lo.st hb,hag.all,<-zV,HG]
  rw[ac hb,Hr,hag.all,show m.x.g.base.toNat=0 by omega,JC]
 .rw[li,hag.all,HL,<-zV];rw[show m.x.g.base.toNat+(m.ap-m.x.g.base).toNat=m.ap.toNat by omega,HG]
 .subst e;refine⟨by rw[<-ei];exact hr,by rw[<-ei];exact hlo.ldr,by rw[ei],by rw[<-ei];exact hcom,by rw[bi.ub.inn.peers (by rw[<-ei];exact hr),bi.n],λj hj hjL=>?_⟩;have hpl:=bi.ub.inn.peers (by rw[<-ei];exact hr);have h5:=(bi.ni.ld (by rw[<-ei];exact hr)).2.2.2 j hj hjL;have h6:=hlo.nx j hj hjL;have h7:=hmat j hj hjL;rw[ei]at h6 h7;have h8:m.x.nxt j=k+1:=by omega
  have h9:=b7 (l:=m.x.peers) (i:=j) (by rw[hpl,bi.n];exact hj);rw[h9];unfold ND.nxt at h8;unfold ND.mat at h7;rw[Gt,h9]at h7 h8;exact GM some (JL h8 h7)
 .rw[<-ei];exact(h.cu.fo i hin e).2
 have hpp:=bi.ub.inn.patience.1;refine⟨hpp,?_⟩;rw[<-ei];rcases h.fo i hin e with f|⟨s,_,⟨A,x,B,f,_⟩,_⟩
 .exact f
 rw[hq]at f;cases A<;>cases f
def zF(x:ND):Int:=(if x.role=1 then 7 else 0)+x.patience
def qU(m:MS):Int:=if m.dn=true then 0 else zF m.x
def bU(G:GS)(i:Nat):Int:=((G.ms[i]?).map qU).getD 0
def am(n:Nat)(G:GS):Int:=YR n (bU G)
def v5{G':GS}{m m':MS}(hm:G.ms[i]?=some m)(hi:i<n)(h:G'.ms=G.ms.set i m'):am n G'+qU m=am n G+qU m':=by
 have hl:=(Gj.1 hm).1;have h1:YR n (bU G')+bU G i=YR n (bU G)+bU G' i:=bQ hi λj _ hj=>by
  unfold bU;rw[h,HC (λe=>hj e.symm)]
 have h2:bU G i=qU m:=by unfold bU;rw[hm];rfl
 have h3:bU G' i=qU m':=by unfold bU;rw[h,Hz hl];rfl
 rw[h2,h3]at h1;exact h1
def xV(h:0<=x.patience):0<=zF x:=by unfold zF;split<;>omega
def B9(hn:n<=5)(hx:x.id<n/\x.n=n)(hp:0<=x.patience)(ho:x.out=[])(hy:x.tickP.q.id<n/\x.tickP.q.n=n):3*(x.tickP.out.length:Int)+4*zF x.tickP.q<=4*zF x+4/\0<=zF x.tickP.q:=by
 have h1:=yp x.tickP.out;unfold zF;rcases(AO ho).pot hn hx hy with⟨o1,o2,o3,o4,o5,_⟩|⟨o1,o2,o3,o4,o5,o6⟩|⟨o1,o2,o3,o4,o5,o6,o7,o8,o9⟩
 .rw[o3,o5];have:x.tickP.out.length=0:=by rw[o1];rfl
  split<;>omega
 .have hr:x.tickP.q.role=2:=by rw[o2];exact o1
  have hp:x.tickP.q.patience=0:=by rw[o2]
  rw[hr,hp,o1];split<;>omega
 rw[o3];split<;>split<;>omega
def Cb(hn:n<=5)(hx:x.id<n/\x.n=n)(hp:0<=x.patience)(ho:x.out=[])(hy:(x.receiveP m).q.id<n/\(x.receiveP m).q.n=n):3*((x.receiveP m).out.length:Int)+4*zF (x.receiveP m).q<=4*zF x+3/\0<=zF (x.receiveP m).q:=by
 have h0:=xV hp;by_cases hv:m.to=x.id/\¬m.frm=x.id/\0<=m.frm/\m.frm<(x.n:Int)
 .have hu:=yN x m.term;have e:=sf hv;rw[e]at hy|-;have h1:=yp ((x.up m.term).kindP m).out;let⟨p1,p2,p3,p4,p5⟩:=(Bc (m:=m) (by rw[hu.rest.2.2.2.2.1];exact ho)).pot hn hy (by rw[hu.rest.1];exact hp);have hux:zF (x.up m.term)<=zF x:=by
   unfold zF;rw[hu.rest.1];by_cases hr:(x.up m.term).role=1;.let⟨e1,_⟩:=hu.two Om;rw[e1];exact Gk _
   rw[ac hr];split<;>omega
  have hup:=hu.rest.1;have hva:aI m<=1/\aI m<=vI m:=by
   unfold aI vI;by_cases h2:ci m=true;.rw[an h2,an (by unfold ci at h2;unfold zd;rw[h2];rfl)];omega
   rw[ac h2];omega
  unfold zF at hux|-;rcases p4 with⟨q1,q2⟩|⟨q1,q2,q3,q4,q5⟩
  .by_cases hr:((x.up m.term).kindP m).q.role=1;.rw[an hr];rw[an (q2 hr)]at hux;rcases p5 with p5|p5<;>(split at hux<;>split<;>omega)
   rw[ac hr];rcases p5 with p5|p5<;>(split at hux<;>split at hux<;>split<;>omega)
  rw[ac q2];rw[an q1]at hux;rcases p5 with p5|p5<;>(split at hux<;>split<;>omega)
 let⟨e1,e2⟩:=oE ho hv;rw[e1,e2];exact⟨by simp;omega,h0⟩
def xU(hn:n<=5)(hx:x.id<n/\x.n=n)(hp:0<=x.patience)(ho:x.out=[])(hr:x.role=2)(cmd:Bs):3*((x.entryP cmd).out.length:Int)+4*zF (x.entryP cmd).q<=4*zF x+12/\0<=zF (x.entryP cmd).q:=by
 have h1:(x.entryP cmd).out.length<=4:=by
  let⟨c,hc⟩:=cq {x with g:=x.g.play (.add x.g.last [(x.g.term,cmd)])};have e:x.entryP cmd=ND.feedAll {x with g:=x.g.play (.add x.g.last [(x.g.term,cmd)]),commit:=c}:=by unfold ND.entryP;rw[hc]
  rw[e,ZS (x:={x with g:=x.g.play (.add x.g.last [(x.g.term,cmd)]),commit:=c}) ho,H8,H8];have:=qY (y:={x with g:=x.g.play (.add x.g.last [(x.g.term,cmd)]),commit:=c}) (by show x.id<x.n;omega);have e2:({x with g:=x.g.play (.add x.g.last [(x.g.term,cmd)]),commit:=c}:ND).n=n:=hx.2;omega
 have e1:(x.entryP cmd).q.role=x.role:=fb x cmd;have e2:(x.entryP cmd).q.patience=x.patience:=gB x cmd;unfold zF;rw[e1,e2];split<;>omega
def oJ{N N':Nat}{m:MS}{f:NS->Bool×NS}{P:LG->Prop}{B:Int}(mi:MI T I N i n m)(u:MU T I N i n m)(hfx:Fx N' P (f (m.x,m.D)) y)(h0:0<=zF y.q)(hB:3*(y.out.length:Int)+4*zF y.q<=B):3*((m.act (Xw (m.x,m.D) f)).2.length:Int)+4*qU (m.act (Xw (m.x,m.D) f)).1<=B:=by
 rcases nv u.ub.inn.down u.sd mi.out hfx with⟨e1,e2,e3⟩|⟨e1,e2,e3⟩
 .have ex:(m.act (Xw (m.x,m.D) f)).1.x=y.q:=by unfold MS.act;rw[e2]
  have em:(m.act (Xw (m.x,m.D) f)).2=y.out:=e1;unfold qU;rw[ex,em];split<;>omega
 have em:(m.act (Xw (m.x,m.D) f)).2=[]:=e1;have ed:(m.act (Xw (m.x,m.D) f)).1.dn=true:=Ys e3.2.1;unfold qU;rw[em,an ed];simp;omega
def kn{N:Nat}{m:MS}(u:MU T I N i n m):qU m=zF m.x:=by unfold qU;rw[u.dn];rfl
def PL9(n τ:Nat)(G:GS):Prop:=∃a t I,a<=τ/\t<=τ/\GI n a t I G/\3*(G.st.length:Int)+4*am n G<=4*τ
def PL9.le{υ:Nat}(h:PL9 n τ G)(hu:τ<=υ):PL9 n υ G:=by
 let⟨a,t,I,h1,h2,h3,h4⟩:=h;exact⟨a,t,I,Om,Om,h3,Om⟩
def v6{a t:Nat}(g:GI n a t I G)(m:MS)(hm:G.ms[i]?=some m):0<=qU m:=by
 rcases(g.ms i m hm).st with u|d
 .rw[kn u];exact xV u.ub.inn.patience.1
 unfold qU;rw[an (Ys d.1)];exact Gk _
def lA{m:MS}(hm:G.ms[i]?=some m)(hi:i<n)(r:MS×List Msg):am n (G.done i r.1 r.2)+qU m=am n G+qU r.1/\(G.done i r.1 r.2).st.length=G.st.length+r.2.length:=by
 refine⟨?_,by show(G.st++XD G.last r.2).length=_;rw[Gm,yu]⟩;have h1:=v5 (G':=G.done i r.1 r.2) hm hi rfl;let⟨ex,eD⟩:=jU i r.1 G.out;have:qU (XI i r.1 G.out).1=qU r.1:=by unfold qU MS.dn;rw[ex,eD]
 rw[this]at h1;exact h1
def PL9.tick{n τ:Nat}(hn:n<=5){G:GS}{Γ:GH}(h:PL9 n τ G)(hs:SafeI n Γ G)(hτ:τ<=5000){i:Nat}(hi:i<n):PL9 n (τ+1) (G.tick i):=by
 let⟨a,t,I,h1,h2,g,h4⟩:=h;let⟨m,hm⟩:=g.mem hi;let⟨I',g'⟩:=g.tick hi Om Om;refine⟨a+1,t+1,I',Om,Om,g',?_⟩;rw[a8 hm];have mi:=g.ms i m hm;have hI:=g.I;let⟨d1,d2⟩:=lA hm hi m.tick;have key:3*(m.tick.2.length:Int)+4*qU m.tick.1<=4*qU m+4:=by
  rcases mi.st with u|d;.let⟨F,hF,_⟩:=(hs.ms i m hm).up (by rw[u.dn];decide);let⟨P,hfx,_⟩:=(vf (D:=m.D) hs.hi hF u.ub u.id u.n mi.out u.sd Om Om).1;have htr:=u.ub.inn.tickP.tr;let⟨p1,p2⟩:=B9 hn (x:=m.x) (by rw[u.id,u.n];exact⟨hi,rfl⟩) u.ub.inn.patience.1 mi.out (by show m.x.tickP.id<n/\m.x.tickP.n=n;rw[htr.id,htr.n,u.id,u.n];exact⟨hi,rfl⟩);rw[kn u];exact oJ (f:=tickN) mi u hfx p2 p1
  have e:m.tick=(m,[]):=by unfold MS.tick;rw[qB (show Xy (m.x,m.D)=true from Ys d.1)];exact mi.act0
  rw[e];simp;omega
 rw[d2];push_cast;omega
def B'(h:Yb G.st k=true):am n (G.take k)=am n G/\(G.take k).st.length+1=G.st.length:=by
 refine⟨rfl,?_⟩;show(YO G.st k).length+1=_;unfold YO;rw[an h];unfold Yb at h;simp at h;rw[LJ Om];omega
def PL9.del(hn:n<=5)(h:PL9 n τ G)(hs:SafeI n Γ G)(hτ:τ<=5000)(k:Int):PL9 n (τ+1) (G.deliver k):=by
 let⟨a,t,I,h1,h2,g,h4⟩:=h;let⟨I',g'⟩:=g.deliver k Om Om;refine⟨a+1,t,I',Om,Om,g',?_⟩;have hI:=g.I;unfold GS.deliver;split
 .rename_i hb;let⟨t1,t2⟩:=B' (n:=n) hb;have hmb:=g.msg _ (jk hb);have hmi:=hs.msg _ (jk hb);split
  .split;.rw[t1];push_cast;omega
   rename_i hto m hm;have hi:(XV G.st k).2.to.toNat<n:=by have:=(Gj.1 hm).1;rw[<-g.len.1];exact this
   have mi:=g.ms _ m hm;let⟨d1,d2⟩:=lA (G:=G.take k) hm hi (m.recv (XV G.st k).2);have key:3*((m.recv (XV G.st k).2).2.length:Int)+4*qU (m.recv (XV G.st k).2).1<=4*qU m+3:=by
    rcases mi.st with u|d;.let⟨F,hF,_⟩:=(hs.ms _ m hm).up (by rw[u.dn];decide);let⟨P,hfx,_⟩:=(vR (D:=m.D) hs.hi hF u.ub u.id u.n mi.out u.sd hmi hmb Om Om Om).1;have htr:=(u.ub.inn.receiveP hmb.ln).tr;let⟨p1,p2⟩:=Cb hn (x:=m.x) (m:=(XV G.st k).2) (by rw[u.id,u.n];exact⟨hi,rfl⟩) u.ub.inn.patience.1 mi.out (by show(m.x.receiveP _).id<n/\(m.x.receiveP _).n=n;rw[htr.id,htr.n,u.id,u.n];exact⟨hi,rfl⟩);rw[kn u];exact oJ (f:=λs=>Xz s (XV G.st k).2) mi u hfx p2 p1
    have e:m.recv (XV G.st k).2=(m,[]):=by unfold MS.recv;rw[qB (show Xy (m.x,m.D)=true from Ys d.1)];exact mi.act0
    rw[e];simp;omega
   rw[t1]at d1;rw[d2];push_cast;omega
  rw[t1];push_cast;omega
 .push_cast;omega
def PL9.prop{n τ:Nat}(hn:n<=5){G:GS}{Γ:GH}(h:PL9 n τ G)(hs:SafeI n Γ G)(hτ:τ<=5000){i:Nat}(hi:i<n){cmd:Bs}(hc:cmd.length<=100):PL9 n (τ+10) (G.propose i cmd).2:=by
 let⟨a,t,I,h1,h2,g,h4⟩:=h;let⟨m,hm⟩:=g.mem hi;let⟨I',g'⟩:=g.prop hi hc Om Om;refine⟨a+1,t+10,I',Om,Om,g',?_⟩;rw[bj hm];have mi:=g.ms i m hm;have hI:=g.I;let⟨d1,d2⟩:=lA hm hi (m.prop cmd).2;have key:3*((m.prop cmd).2.2.length:Int)+4*qU (m.prop cmd).2.1<=4*qU m+12:=by
  rcases mi.st with u|d
  .by_cases hr:m.x.role=2;.let⟨F,hF,_⟩:=(hs.ms i m hm).up (by rw[u.dn];decide);let⟨P,hfx,_⟩:=(sU (D:=m.D) (cmd:=cmd) hs.hi hF u.ub u.id u.n mi.out u.sd hr hc Om Om).1;let⟨p1,p2⟩:=xU hn (x:=m.x) (by rw[u.id,u.n];exact⟨hi,rfl⟩) u.ub.inn.patience.1 mi.out hr cmd;rw[gb mi u hr hfx,kn u];exact oJ (f:=λs=>Xb s cmd) mi u hfx p2 p1
   rw[dO hr,mi.act0];simp;omega
  rw[lB (Ys d.1),mi.act0];simp;omega
 show 3*((G.done i (m.prop cmd).2.1 (m.prop cmd).2.2).st.length:Int)+4*am n (G.done i (m.prop cmd).2.1 (m.prop cmd).2.2)<=_;rw[d2];push_cast;omega
def PL9.set{n τ a t:Nat}{I:Int}{G:GS}(h1:a<=τ)(h2:t<=τ)(h4:3*(G.st.length:Int)+4*am n G<=4*τ){i:Nat}{m m':MS}(hm:G.ms[i]?=some m)(hi:i<n)(g':GI n (a+1) t I {G with ms:=G.ms.set i m'})(hp:qU m'<=qU m):PL9 n (τ+1) {G with ms:=G.ms.set i m'}:=by
 refine⟨a+1,t,I,Om,Om,g',?_⟩;have:=v5 (G':={G with ms:=G.ms.set i m'}) hm hi rfl;show 3*(G.st.length:Int)+_<=_
 push_cast;omega
def PZ(n τ:Nat)(G:GS):Prop:=PL9 n τ G/\∃Γ,SafeI n Γ G
def PZ.le{n τ υ:Nat}{G:GS}(h:PZ n τ G)(hu:τ<=υ):PZ n υ G:=⟨h.1.le hu,h.2⟩
def Later.safe(h:Later n Γ G):∃Γ,SafeI n Γ G:=by
 let⟨Δ,_,h⟩:=h;exact⟨Δ,h⟩
def PZ.tick{n τ i:Nat}(hn:n<=5){G:GS}(h:PZ n τ G)(hτ:τ<=5000)(hi:i<n):PZ n (τ+1) (G.tick i):=by
 let⟨h1,Γ,hs⟩:=h;refine⟨h1.tick hn hs hτ hi,?_⟩;let⟨a,t,I,e1,e2,g,_⟩:=h1;exact(hs.tick g Om Om).safe
def PZ.del{n τ:Nat}(hn:n<=5){G:GS}(h:PZ n τ G)(hτ:τ<=5000)(k:Int):PZ n (τ+1) (G.deliver k):=by
 let⟨h1,Γ,hs⟩:=h;refine⟨h1.del hn hs hτ k,?_⟩;let⟨a,t,I,e1,e2,g,_⟩:=h1;exact(hs.deliver g k Om Om).safe
def PZ.tickN{n τ i:Nat}(hn:n<=5){G:GS}(h:PZ n τ G)(hi:i<n):∀k,τ+k<=5000->PZ n (τ+k) (G.tickN i k)
 |0,_=>h
 |k+1,hk=>(PZ.tickN hn h hi k Om).tick hn Om hi
def PZ.delN{n τ:Nat}(hn:n<=5){G:GS}(h:PZ n τ G):∀k,τ+k<=5000->PZ n (τ+k) (G.delN k)
 |0,_=>h
 |k+1,hk=>(PZ.delN hn h k Om).del hn Om 0
def PZ.crash{n τ i:Nat}{G:GS}(h:PZ n τ G)(hτ:τ<=5000)(hi:i<n)(keep:Int):PZ n (τ+1) (G.crash i keep):=by
 let⟨h1,Γ,hs⟩:=h;let⟨a,t,I,e1,e2,g,e4⟩:=h1;refine⟨?_,(hs.crash g keep).safe⟩;let⟨m,hm⟩:=g.mem hi;have g':=g.crash hi keep;rw[jX hm]at g'|-;refine PL9.set e1 e2 e4 hm hi g' (Hg ?_ (v6 g m hm));unfold qU;split;.exact Gk _
 rw[ta];exact Gk _
def PZ.doE{n τ:Nat}(hn:1<=n/\n<=5){G:GS}(h:PZ n τ G)(hτ:τ+60<=5000){e:Ev}(hb:e.Bd)(hsm:e.sm):PZ n (τ+60) (G.doE n e):=by
 have hi:=nC e.i (n:=n) Om;have hil:(cj e.i n).toNat<n:=Om;let⟨h1,Γ,hs⟩:=id h;let⟨a,t,I,e1,e2,g,e4⟩:=id h1;unfold GS.doE GS.does;split;.rename_i hw;have:=hsm.n (.inl hw);exact(h.tickN hn.2 hil e.n.toNat Om).le Om
 split;.exact(h.del hn.2 Om _).le Om
 split
 .refine⟨⟨a+1,t,I,Om,Om,(g.take (G.place e)).later,?_⟩,⟨Γ,hs.drop _⟩⟩;have h5:(YO G.st (G.place e)).length<=G.st.length:=by
   unfold YO;split;.exact L6 _ _
   exact Gl _
  have h6:am n (G.drop (G.place e))=am n G:=rfl;show 3*((YO G.st (G.place e)).length:Int)+4*am n (G.drop (G.place e))<=_;rw[h6];push_cast;omega
 split
 .split
  .refine⟨⟨a+1,t,I,Om,Om,g.twice _,?_⟩,⟨Γ,hs.twice _⟩⟩;have h5:(aG G.st G.last (G.place e)).length<=G.st.length+1:=by
    unfold aG;split;.rw[Gm,yu];exact Gl _
    omega
   have h6:am n (G.twice (G.place e))=am n G:=rfl;show 3*((aG G.st G.last (G.place e)).length:Int)+4*am n (G.twice (G.place e))<=_;rw[h6];push_cast;omega
  exact h.le Om
 split;.exact PZ.le (τ:=τ+10) ⟨h1.prop hn.2 hs Om hil hsm.text,(hs.prop g hsm.text Om Om).safe⟩ Om
 split
 .refine PZ.le (τ:=τ+1) ⟨?_,(hs.comp g Om Om).safe⟩ Om;let⟨m,hm⟩:=g.mem hil;have g':=g.comp hil Om Om;rw[d7 hm]at g'|-;refine PL9.set e1 e2 e4 hm hil g' ?_;have mi:=g.ms _ m hm;rcases mi.st with u|d
  .rw[lZ mi u];split;.exact Gk _
   rw[kn u];unfold qU;split;.exact xV u.ub.inn.patience.1
   exact Gk _
  rw[l5 mi.out (Ys d.1)];exact Gk _
 split;.exact(h.crash Om hil _).le Om
 split;.refine PZ.le (τ:=τ+1) ⟨?_,(hs.fuel _).safe⟩ Om;let⟨m,hm⟩:=g.mem hil;have g':=g.fuel hil hb.n;rw[dV hm]at g'|-;exact PL9.set e1 e2 e4 hm hil g' (Gk _)
 split;.rename_i hw;have:=hsm.n (.inr hw);exact(h.delN hn.2 e.n.toNat Om).le Om
 exact h.le Om
def PZ.new{n:Nat}(hn:1<=n/\n<=9):PZ n 0 (GS.new n):=by
 refine⟨⟨0,0,0,Gl _,Gl _,GI.new hn,?_⟩,GH.new,SafeI.new n⟩;have h1:∀i,bU (GS.new n) i<=0:=λi=>by
  unfold bU;cases hm:(GS.new n).ms[i]? with
  |none=>exact Gk _
  |some m=>
   have hi:=(Gj.1 hm).1;have hi:i<n:=by simpa[GS.new]using hi
   simp[GS.new,hi]at hm;subst hm;show qU _<=0;unfold qU;split;.exact Gk _
   exact Gk _
 have h2:=yB (f:=bU (GS.new n)) (g:=λ_=>0) (n:=n) (λj _=>h1 j);have h0:∀n,YR n (λ_=>(0:Int))=0:=λn=>by
  induction n with
  |zero=>rfl
  |succ n ih=>unfold YR;rw[ih];rfl
 rw[h0]at h2;have h3:(GS.new n).st.length=0:=rfl;unfold am;rw[h3];omega
noncomputable def GS.crashK(G:GS)(keep:Int):Nat->GS
 |0=>G
 |k+1=>(G.crashK keep k).crash k keep
def wj{D:DK}(h:yq D)(rs:List Rec)(p:Bs):yq (D.open rs p).2:=by
 unfold DK.open;split;.exact h
 split;.exact h
 exact(nY h _).2.1
def C0(m:MS)(i n:Nat)(keep:Int):yq (m.crash i n keep).D/\(m.crash i n keep).x=ND.start i n (m.crash i n keep).x.g/\((m.crash i n keep).ap=(m.crash i n keep).x.g.base\/((m.crash i n keep).ap=0/\¬(m.crash i n keep).x.g.base>0)):=by
 have h0:yq (m.D.crash keep):=⟨rfl,rfl⟩;unfold MS.crash Zt;split;.exact⟨wj h0 _ _,rfl,.inl rfl⟩
 rename_i h;exact⟨wj h0 _ _,rfl,.inr ⟨rfl,h⟩⟩
structure Anew (n:Nat) (G:GS) (k:Nat):Prop where
 m:∀i m,i<k->G.ms[i]?=some m->yq m.D/\m.x=ND.start i n m.x.g/\(m.ap=m.x.g.base\/(m.ap=0/\¬m.x.g.base>0))
def gD{n τ:Nat}{G:GS}(h:PZ n τ G)(keep:Int)(hτ:τ+n<=5000):∀k,k<=n->PZ n (τ+k) (G.crashK keep k)/\Anew n (G.crashK keep k) k
 |0,_=>⟨h,⟨λi m hi=>by omega⟩⟩
 |k+1,hk=>by
  let⟨h1,h2⟩:=gD h keep hτ k Om;refine⟨h1.crash Om Om keep,⟨λi m hi hm=>?_⟩⟩;let⟨a,t,I,_,_,g,_⟩:=h1.1;let⟨mk,hmk⟩:=g.mem (show k<n by omega);have hm:((G.crashK keep k).crash k keep).ms[i]?=some m:=hm;rw[jX hmk,g.len.1]at hm;have hm:((G.crashK keep k).ms.set k (mk.crash k n keep))[i]?=some m:=hm;by_cases e:i=k;.subst e;rw[Hz (Gj.1 hmk).1]at hm;obtain rfl:=GU hm;exact C0 mk i n keep
  rw[HC (λh=>e h.symm)]at hm;exact h2.m i m Om hm
def F9(hn:1<=n/\n<=5)(h:PZ n 3605 G)(ha:Anew n G n):LW n 86395 2095 G.er/\APC G.er/\G.er.q.length<=4850/\(∀i,i<n->G.er.nd i=ND.start i n (G.er.nd i).g)/\SJ11 n 86395 8000 G:=by
 let⟨⟨a,t,I,h1,h2,g,h4⟩,Γ,hs⟩:=h;have hmem:∀m∈G.ms,∃i,i<n/\G.ms[i]?=some m:=λm hm=>by
  let⟨i,hi⟩:=Ik.1 hm;exact⟨i,by have:=(Gj.1 hi).1;rw[g.len.1]at this;exact this,hi⟩
 have hl:Hl G:=λm hm=>by
  let⟨i,hi,e⟩:=hmem m hm;exact(ha.m i m hi e).1
 have h0:=yB (f:=λ_=>0) (g:=bU G) (n:=n) (λj hj=>by
  let⟨m,hm⟩:=g.mem hj;unfold bU;rw[hm];exact v6 g m hm)
 have h00:∀n,YR n (λ_=>(0:Int))=0:=λn=>by
  induction n with
  |zero=>rfl
  |succ n ih=>unfold YR;rw[ih];rfl
 rw[h00]at h0;unfold am at h4;refine⟨⟨G,Γ,⟨⟨a,t,I,Om,Om,g⟩,hl⟩,hs,rfl⟩,λi m hi=>?_,?_,λi hi=>?_,⟨a,t,I,Om,Om,g⟩,hl⟩
 .have hi2:(G.ms.map MS.er)[i]?=some m:=hi;rw[HD]at hi2;cases hm:G.ms[i]? with
  |none=>rw[hm]at hi2;cases hi2
  |some m0=>
   rw[hm]at hi2;obtain rfl:=GU hi2;have hin:i<n:=by have:=(Gj.1 hm).1;rw[g.len.1]at this;exact this
   let⟨_,e1,e2⟩:=ha.m i m0 hin hm;have e3:m0.x.commit=m0.x.g.base:=by rw[e1];rfl
   have hb:0<=m0.x.g.base:=by
    rcases(g.ms i m0 hm).st with u|d
    .exact u.ub.lb.base
    exact Gr (hl m0 (Gv hm)).1 (by rw[d.1];decide)
   show m0.ap=m0.x.commit;rw[e3];rcases e2 with e2|⟨e2,e4⟩<;>omega
 .show(G.st.map _).length<=_;rw[H8];omega
 let⟨m,hm⟩:=g.mem hi;have e:G.er.nd i=m.x:=by rw[qL (e9 hm)];rfl
 rw[e];exact(ha.m i m hi hm).2.1
def nz(hn:2<=n/\n<=5)(hl:LW n 86395 2095 H)(ha:APC H)(hq:H.q.length<=4850)(hs:∀i,i<n->H.nd i=ND.start i n (H.nd i).g):∃L T k t w,St n L T k t w (H.roundsS n 400):=by
 let⟨T,I,Γ,_,hv⟩:=hl.lv;have hrole:∀i,i<n->(H.nd i).role=0/\(H.nd i).patience=0:=λi hi=>by rw[hs i hi];exact⟨rfl,rfl⟩
 have hph:PhA n (λi=>(H.nd i).g.term) H:=⟨λi hi=>by
  have:=(hrole i hi).1;exact⟨by omega,λh=>by omega,Gk _⟩⟩
 have hvt:∀i t (x:Nat),x<n->Γ.vt i t x->t<=(H.nd x).g.term:=λi t x hx hw=>by
  let⟨F,b⟩:=hv.nd x hx;rw[<-b.ni.tf];exact hv.hi.vtf _ _ _ (hv.hi.vts _ _ _ hw)
 have hold:∀m∈H.q,rg n (λi=>(H.nd i).g.term) m:=λm hm=>by
  refine⟨λk1 k2 i hi hto=>?_,λk0 i hi hf=>?_⟩
  .let⟨v,x,_,e2,e3⟩:=(hv.msg m hm).1.vote k1 k2;have:x=i:=by omega
   subst this;exact hvt _ _ _ hi e3
  let⟨x,e1,e2,_⟩:=(hv.msg m hm).1.ask k0;have:x=i:=by omega
  subst this;exact hvt _ _ _ hi e2
 have hpat:yX n H=0:=by
  refine Kv ?_ (hl.leq (c:=85000) (d:=0) Om Om|>λh=>(LW.dels1 (c:=84999) h).2.pat0);have:=yB (f:=λi=>(H.nd i).patience) (g:=λ_=>0) (n:=n) (λj hj=>I2 (hrole j hj).2);have h00:∀n,YR n (λ_=>(0:Int))=0:=λn=>by
   induction n with
   |zero=>rfl
   |succ n ih=>unfold YR;rw[ih];rfl
  rw[h00]at this;exact this
 have b1:=Jk 400 hn.2;let⟨i,hi,h1⟩:=DF (c:=0) (d:=0) hn hph hold hpat hq (hl.leq Om Om);have hnn:n+200<=205:=by omega
 have l1:LW n 53000 (0+1285) (H.roundsS n i):=LW.rounds (hl.leq (by
  have:=Jc hi hnn;omega) (by have:=Jc hi hn.2;omega))
 let⟨L,t,k,b,hk,hb,hcw,hphi⟩:=h1.cw hn.2 l1;let⟨j,hj,h2,r,h3⟩:=hcw.drain hn.2 hk hb 214 Dc hphi (c:=0) (d:=0) (l1.leq (by have:=Jk 214 hnn;omega) (by have:=Jk 214 hn.2;omega));have hij:i+j<=376:=by omega
 have l2:LW n 0 0 (H.roundsS n (i+j)):=LW.rounds (hl.leq (by
  have:=Jc hij hnn;omega) (by have:=Jc hij hn.2;omega))
 have a2:APC (H.roundsS n (i+j)):=APC.rounds (n:=n) (c:=0) (d:=0) (hl.leq (by
  have:=Jc hij hnn;omega) (by have:=Jc hij hn.2;omega)) ha
 rw[<-jr]at h2 h3;let⟨w,p,hp,hps⟩:=Cw.ps (.inl hn.1) h3 h2 a2 l2;have h4:=hps.st3 Om hp Om (j:=400-(i+j)) Om;rw[<-jr,show i+j+(400-(i+j))=400 by omega]at h4;exact⟨L,t,k,t,w,h4⟩
def xe(hs:Stp 1 H (H.delS 0))(hq:H.q=m::l):(H.delS 0).nd 0=H.nd 0/\(H.delS 0).q=l:=by
 cases hs.dl hq with
 |skip hx hnd hq'=>exact⟨hnd 0,hq'⟩
 |go i y out hi hto hvm hnd hq' he hid=>exfalso;unfold Vd at hvm;omega
def kU:∀{k c d:Nat} {H:GS},LW 1 (c+k) d H->(H.delsS k).nd 0=H.nd 0/\((H.delsS k).q=[]\/(H.delsS k).q.length+k<=H.q.length)
 |0,_,_,H,_=>⟨rfl,.inr (Gl _)⟩
 |k+1,c,d,H,h=>by
  rw[qW];have h:LW 1 (c+k+1) d H:=h;cases hq:H.q with
  |nil=>rw[yw hq,ff hq];exact⟨rfl,.inl hq⟩
  |cons m l=>
   rw[co hq];let⟨h1,h2⟩:=h.dels1;let⟨e1,e2⟩:=xe h2 hq;let⟨f1,f2⟩:=kU h1;rw[e2]at f2;exact⟨f1.trans e1,f2.imp id λf=>by rw[GD];omega⟩
def K1(r:Nat)(H:GS):Prop:=(H.q=[]\/H.q.length+200*r<=4850)/\((¬(H.nd 0).role=2/\(H.nd 0).patience=r/\r<20)\/((H.nd 0).role=2/\(H.nd 0).leader=0/\(H.nd 0).commit=(H.nd 0).g.last/\0<=(H.nd 0).patience/\(H.nd 0).patience<=2))
def K1.round{r:Nat}(h:K1 r H)(hl:LW 1 (c+1+201) (d+1) H):K1 (r+1) (H.roundS 1):=by
 obtain⟨l1,hs⟩:=LW.tick1 (c:=c+201) (d:=d) (i:=0) (by rw[show c+201+1=c+1+201 by omega];exact hl) Dc;obtain⟨y,out,hnd,hq',ht,hid,hyn⟩:=hs.tk Dc;have hc:=hs.nd (show 0<1 by decide);have hy0:(H.tickS 0).nd 0=y:=by rw[hnd,an rfl]
 have hno:∀z:ND,z.id=0->z.n=1->z.others=[]:=λz h1 h2=>by
  have:=qY (y:=z) Om;exact IE.1 Om
 have hlim:=yL (H.nd 0).id (H.nd 0).g.term;obtain⟨h1,h2⟩:=h;have key:out=[]/\((¬y.role=2/\y.patience=r+1/\r+1<20)\/(y.role=2/\y.leader=0/\y.commit=y.g.last/\0<=y.patience/\y.patience<=2)):=by
  cases ht with
  |wait hr hp hy ho=>
   refine⟨ho,.inl ?_⟩;rcases h2 with⟨_,e,_⟩|⟨e,_⟩
   .rw[hy];exact⟨hr,by show(H.nd 0).patience+1=_;omega,by omega⟩
   exact Gr e hr
  |lead hr hp hy ho=>
   refine⟨ho,.inr ?_⟩;rcases h2 with⟨e,_⟩|⟨_,e2,e3,e4,e5⟩
   .exact Gr hr e
   rw[hy];exact⟨hr,e2,e3,by show 0<=(H.nd 0).patience+1;omega,by show(H.nd 0).patience+1<=2;omega⟩
  |beat hr hp hy ho=>
   rw[hno _ hc.id hc.n]at ho;refine⟨ho,.inr ?_⟩;rcases h2 with⟨e,_⟩|⟨_,e2,e3,e4,e5⟩
   .exact Gr hr e
   rw[hy];exact⟨hr,e2,e3,by show(0:Int)<=0;decide,by show(0:Int)<=2;decide⟩
  |stand hn hr hp hy ho=>exact Gr hc.n hn
  |one hn hr hp hw=>
   have ho:=hw.out;rw[hno _ hid hyn]at ho;refine⟨ho,.inr ⟨hw.role,?_,?_,by rw[hw.pat];decide,by rw[hw.pat];decide⟩⟩;.rw[hw.leader];show((H.nd 0).id:Int)=0;rw[hc.id];rfl
   obtain⟨T,I,Γ,T',I',Γ',v1,v2,_,hlen⟩:=hs;obtain⟨F,b⟩:=v2.nd 0 Dc;have hla:=(zc (L:=0) v2 Dc (by rw[hy0];exact hw.role)).1;rw[hy0]at hla b;obtain⟨F0,b0⟩:=v1.nd 0 Dc;have htk:y=(H.nd 0).stood.winP.q:=by
    rw[<-hy0,(dE (H:=H) (i:=0) Om).1 0,an rfl,nS hn hr hp]
   obtain⟨w,hw0⟩:∃w:ND,w={(H.nd 0).stood.wins with g:=(H.nd 0).stood.wins.g.play (.add (H.nd 0).stood.wins.g.last [((H.nd 0).stood.wins.g.term,[])])}:=⟨_,rfl⟩;have hyc:y.commit=w.count.commit:=by
    rw[htk,hw0];unfold ND.winP ND.entryP;rw[Xe];rfl
   have hwg:w.g=y.g:=by rw[hw.g,hw0];rfl
   have hwid:w.id=0/\w.n=1:=by rw[hw0];exact⟨hc.id,hc.n⟩
   have m1:y.g.last<=w.mid:=oY (x:=w) Om (by rw[hwg];exact Gk _) (λj hj hjn=>by omega);have m2:w.mid<=y.g.last:=gi (x:=w) Om (by rw[hwg];exact Gk _) (λj hj hjn=>by omega)
   obtain⟨cm,c1,c2,c3,c4⟩:=fh (x:=w) (λ_=>by
    rw[show w.mid=y.g.last by omega,hwg];have:w.tAt y.g.last=y.tAt y.g.last:=by unfold ND.tAt;rw[hwg]
    rw[this];exact hla)
   have hcm:w.count.commit=cm:=by rw[c1]
   have:=b.ub.inn.commit.2;omega
 obtain⟨k1,k2⟩:=key;have hqm:(H.tickS 0).q=H.q:=by rw[hq',k1,HY]
 have e0:H.ticksS 1=H.tickS 0:=rfl;obtain⟨f1,f2⟩:=kU (k:=200) (c:=c+1) (by rw[show c+1+200=c+201 by omega];exact l1);have er:H.roundS 1=(H.tickS 0).delsS 200:=rfl;rw[<-er]at f1 f2;rw[hqm]at f2;refine⟨?_,by rw[f1,hy0];exact k2⟩;rcases f2 with f2|f2
 .exact .inl f2
 rcases h1 with h1|h1;.rw[h1]at f2;simp at f2
 exact .inr Om
def K1.rounds:∀{k r c d:Nat} {H:GS},K1 r H->LW 1 (c+1+k*201) (d+k) H->K1 (r+k) (H.roundsS 1 k)
 |0,_,_,_,_,h,_=>h
 |k+1,r,c,d,H,h,hl=>by
  rw[XP,show r+(k+1)=r+1+k by omega];have hl:LW 1 (c+k*201+1+201) (d+k+1) H:=by rw[show c+k*201+1+201=c+1+(k+1)*201 by omega];exact hl
  exact K1.rounds (h.round hl) (LW.round (n:=1) (by rw[show c+1+k*201+(1+200)=c+k*201+1+201 by omega];exact hl))
def Ff(hl:LW 1 86395 2095 H)(ha:APC H)(hq:H.q.length<=4850)(hs:∀i,i<1->H.nd i=ND.start i 1 (H.nd i).g):∃L T k t w,St 1 L T k t w (H.roundsS 1 400):=by
 have h0:K1 0 H:=by
  refine⟨.inr Om,.inl ?_⟩;rw[hs 0 Dc];exact⟨by show¬(0:Int)=2;decide,rfl,by decide⟩
 have h1:=h0.rounds (k:=25) (c:=0) (d:=0) (hl.leq Om Om);have l1:LW 1 0 0 (H.roundsS 1 25):=LW.rounds (hl.leq Om Om);have a1:APC (H.roundsS 1 25):=APC.rounds (n:=1) (c:=0) (d:=0) (hl.leq Om Om) ha;let⟨g1,g2⟩:=h1;have hq0:(H.roundsS 1 25).q=[]:=by
  rcases g1 with g1|g1;.exact g1
  omega
 rcases g2 with⟨_,_,g2⟩|⟨r1,r2,r3,r4,r5⟩;.omega
 rw[show 400=25+375 by decide,jr];generalize H.roundsS 1 25=J at*;have hiv:InvL 1 0 J:=by
  refine⟨(λm hm=>by rw[hq0]at hm;cases hm),λL hL hr=>?_,λL hL hr=>?_⟩
  .have:L=0:=by omega
   subst this;refine⟨λj hj hj0=>by omega,λ⟨j,hj,hx⟩=>?_,(λm hm=>by rw[hq0]at hm;cases hm)⟩;have:j=0:=by omega
   subst this;omega
  have:L=0:=by omega
  subst this;exact⟨λ_ j hj hj0=>by omega,λh=>by omega,r2,λj hj hj0=>by omega⟩
 have hcw:Cw 1 0 (J.nd 0).g.term (J.nd 0).g.last (J.nd 0).g.base 0 J:=by
  refine⟨⟨⟨hiv,λj hj=>?_,by decide,r1,rfl⟩,λj hj hj0=>by omega,rfl,rfl⟩,⟨r4,r5⟩,λj hj hj0=>by omega,by rw[hq0];simp;omega⟩;have:j=0:=by omega
  subst this;exact Gk _
 let⟨w,p,hp,hps⟩:=Cw.ps (.inr r3) hcw hq0 a1 l1;have h4:=hps.st3 Dc hp Om (j:=375) Dc;exact⟨_,_,_,_,_,h4⟩
def lf{α:Type}(f:Int->α)(i:Int)(v:α):Int->α:=λj=>if j=i then v else f j
def MpB(f:Int->Option Value)(g:Int->Bool):Prop:=∀i,(f i).getD (.bool false)=.bool (g i)
def MpB.set{f:Int->Option Value}{g:Int->Bool}(h:MpB f g)(i:Int)(v:Bool):MpB (yv f i (.bool v)) (lf g i v):=λj=>by
 unfold yv lf;by_cases hj:j=i;.simp[hj]
 simp[hj];exact h j
def Cd{l:List OC}{k:Nat}(h:l[k]?=some o):((sn l).drop ((k:Int).toNat*4)).take 4=gf o:=by
 rw[Hc];unfold sn;have key:∀(l:List OC) (k:Nat),l[k]?=some o->(((l.map gf).flatten).drop (k*4)).take 4=gf o:=λl=>by
  induction l with
  |nil=>intro k h;simp at h
  |cons a l ih=>
   intro k h;match k,h with
   |0,h=>
    have:=GU h;subst this;simp[gf]
   |k+1,h=>
    have:=ih k (by simpa using h);rw[Hf,Iw,show(k+1)*4=4+k*4 by omega,<-HL];simpa[gf]using this
 exact key l k h
def Ce:∀u∈gf o,u.oneCell'=true:=λu hu=>by
 unfold gf at hu;simp[Gn,Gs,G7]at hu;rcases hu with rfl|rfl|rfl|rfl<;>rfl
def pE(i:Int):∀(es:List Qy) (r:MS×List OC),∃os,(es.foldl (Ye i) r).2=r.2++os/\os.length=(Yh es).length/\(∀o∈os,o.node=i/\r.1.ap<o.index/\o.index<=r.1.ap+es.length/\∃e∈es,o.term=e.1)/\os.Pairwise (λa b=>a.index<b.index)
 |[],r=>⟨[],Si,rfl,λo ho=>(by cases ho),List.Pairwise.nil⟩
 |e::es,r=>by
  let⟨os,h1,h2,h3,h4⟩:=pE i es (Ye i r e);rw[It];unfold Ye at h1 h3|-;by_cases h:e.2=[];.rw[an h]at h1 h3|-;refine⟨os,h1,by rw[h2];simp[Yh,h],λo ho=>?_,h4⟩;let⟨a1,a2,a3,e',a4,a5⟩:=h3 o ho;dsimp only at a2 a3;refine⟨a1,Om,by rw[GD];omega,e',H9 _ a4,a5⟩
  rw[ac h]at h1 h3|-;dsimp only at h1 h3;refine⟨_::os,by rw[h1,GA];rfl,by rw[GD,h2];simp[Yh,h],λo ho=>?_,Jt.2 ⟨λo ho=>?_,h4⟩⟩
  .rcases Gn.1 ho with rfl|ho;.exact⟨rfl,by dsimp only;omega,by rw[GD];dsimp only;omega,e,Si,rfl⟩
   let⟨a1,a2,a3,e',a4,a5⟩:=h3 o ho;exact⟨a1,Om,by rw[GD];omega,e',H9 _ a4,a5⟩
  let⟨a1,a2,_⟩:=h3 o ho;dsimp only;omega
structure BQ (n:Nat) (k:Int) (H:GS):Prop where
 b:∀i,i<n->(H.nd i).g.base<=k
 q:∀m∈H.q,m.kind=4->m.index<=k
def ax(h:(y.stamp (y.feedMsg j)).kind=4):(y.stamp (y.feedMsg j)).index=y.g.base:=by
 by_cases h1:y.nxt j<=y.g.base;.rw[yl h1];rfl
 rw[qE h1]at h;exact Gr (show(2:Int)=4 from h) Dc
def Em(g:LG)(i t:Int)(s:Bs):(g.inst i t s).base=i:=by
 unfold LG.inst;split<;>rfl
def AE(x:ND)(m:Msg):(x.addP m).g.base=x.g.base:=by
 unfold ND.addP;split;.rfl
 split;.rfl
 unfold ND.restP;split;.rfl
 split<;>rfl
def Ef.base{x y:ND}{m:Msg}{out:List Msg}{k:Int}(h:Ef x m y out)(hx:x.g.base<=k)(hm:m.kind=4->m.index<=k):y.g.base<=k/\∀a∈out,a.kind=4->a.index<=k:=by
 cases h with
 |ask hk hy ho=>
  refine⟨by rw[hy];split<;>exact hx,λa ha h4=>?_⟩;rw[ho,GO]at ha;subst ha;exact Gr (show(1:Int)=4 from h4) Dc
 |win hk hr ht hok hm' hw=>
  have:y.g.base<=k:=by rw[hw.g];exact hx
  refine⟨this,λa ha h4=>?_⟩;rw[hw.out]at ha;obtain⟨j,_,rfl⟩:=Gu.1 ha;rw[ax h4];exact this
 |vt hk hr ht hok hm' hy ho=>exact⟨by rw[hy];exact hx,λa ha=>by rw[ho]at ha;cases ha⟩
 |qt h0 h1 h2 h3 hy ho=>exact⟨by rw[hy];exact hx,λa ha=>by rw[ho]at ha;cases ha⟩
 |low hk ht hy ho=>
  refine⟨by rw[hy];exact hx,λa ha h4=>?_⟩;rw[ho,GO]at ha;subst ha;exact Gr (show(3:Int)=4 from h4) Dc
 |fed hk ht hr hd hf=>
  obtain⟨z,hy,_,hz⟩:=hd;refine⟨?_,λa ha h4=>?_⟩
  .rw[hy];show z.g.base<=k;rw[hz];split;.rw[AE];exact hx
   rename_i h2;unfold ND.snapP;split;.show(LG.inst _ _ _ _).base<=k;rw[Em];exact hm (hk.resolve_left h2)
   exact hx
  rcases hf.out with e|⟨b,e,b1,_⟩;.rw[e]at ha;cases ha
  rw[e,GO]at ha;subst ha;omega
 |hrd hk hr ht hd hh=>
  have:y.g.base<=k:=by rw[hh.c.2.2.2];exact hx
  refine⟨this,λa ha h4=>?_⟩;rcases hh.out with e|e
  .rw[e]at ha;cases ha
  rw[e,GO]at ha;subst ha;rw[ax h4];exact this
def Tk.base{x y:ND}{out:List Msg}{k:Int}(h:Tk x y out)(hx:x.g.base<=k):y.g.base<=k/\∀a∈out,a.kind=4->a.index<=k:=by
 cases h with
 |wait hr hp hy ho=>exact⟨by rw[hy];exact hx,λa ha=>by rw[ho]at ha;cases ha⟩
 |lead hr hp hy ho=>exact⟨by rw[hy];exact hx,λa ha=>by rw[ho]at ha;cases ha⟩
 |beat hr hp hy ho=>
  refine⟨by rw[hy];exact hx,λa ha h4=>?_⟩;rw[ho]at ha;obtain⟨j,_,rfl⟩:=Gu.1 ha;rw[ax h4];exact hx
 |stand hn hr hp hy ho=>
  refine⟨by rw[hy];exact hx,λa ha h4=>?_⟩;rw[ho]at ha;obtain⟨j,_,rfl⟩:=Gu.1 ha;exact Gr (show(0:Int)=4 from h4) Dc
 |one hn hr hp hw=>
  have:y.g.base<=k:=by rw[hw.g];exact hx
  refine⟨this,λa ha h4=>?_⟩;rw[hw.out]at ha;obtain⟨j,_,rfl⟩:=Gu.1 ha;rw[ax h4];exact this
def BQ.del(h:BQ n k H)(hs:Stp n H (H.delS 0))(hq:H.q=m::l):BQ n k (H.delS 0):=by
 have hd:=hs.dl hq;have hl:∀a∈l,a.kind=4->a.index<=k:=λa ha=>h.q a (by rw[hq];simp[ha]);generalize H.delS 0=H' at hd;cases hd with
 |skip hx hnd hq'=>exact⟨λi hi=>by rw[hnd];exact h.b i hi,λa ha=>hl a (by rw[<-hq'];exact ha)⟩
 |go i y out hi hto hvm hnd hq' he hid=>
  let⟨b1,b2⟩:=he.base (k:=k) (by rw[(yN (H.nd i) m.term).g.1];exact h.b i hi) (h.q m (by rw[hq];simp));refine⟨λj hj=>?_,λa ha=>?_⟩
  .rw[hnd];split;.exact b1
   exact h.b j hj
  rw[hq']at ha;rcases GE.1 ha with ha|ha
  .exact hl a ha
  exact b2 a ha
def BQ.tick(h:BQ n k H)(hp:p<n)(hs:Stp n H (H.tickS p)):BQ n k (H.tickS p):=by
 let⟨y,out,hnd,hq',ht,hid,hyn⟩:=hs.tk hp;let⟨b1,b2⟩:=ht.base (k:=k) (h.b p hp);generalize H.tickS p=H' at hnd hq';refine⟨λj hj=>?_,λa ha=>?_⟩
 .rw[hnd];split;.exact b1
  exact h.b j hj
 rw[hq']at ha;rcases GE.1 ha with ha|ha
 .exact h.q a ha
 exact b2 a ha
def Tld(k:Int)(len:Nat)(H:GS):Prop:=∀(i:Nat) (m:MS),H.ms[i]?=some m->k<=m.ap/\(m.l.length=len\/∃o∈H.out,o.node=i/\k<o.index/\o.index<=m.ap)
def vu{m:MS}{o:List OC}(hb:m.x.g.base<=k)(h:k<=m.ap/\(m.l.length=len\/∃q∈o,q.node=i/\k<q.index/\q.index<=m.ap)):(k<=(doneS i m o).1.ap/\((doneS i m o).1.l.length=len\/∃q∈(doneS i m o).2,q.node=i/\k<q.index/\q.index<=(doneS i m o).1.ap))/\∃os,(doneS i m o).2=o++os:=by
 let⟨h1,h2⟩:=h;have hr:m.rest=m:=by unfold MS.rest;rw[ac Om]
 let⟨os,o1,o2,o3,o4⟩:=pE i m.rest.todo (m.rest,o);have e:doneS i m o=m.rest.todo.foldl (Ye i) (m.rest,o):=rfl;rw[<-e]at o1;have ef:=eY i m.rest.todo (m.rest,o);rw[<-e]at ef;rw[hr]at o1 o2 o3 ef;have hA:(doneS i m o).1.ap=m.ap+m.todo.length:=by rw[ef]
 have hL:(doneS i m o).1.l.length=m.l.length+os.length:=by rw[ef,o2];simp
 refine⟨⟨Om,?_⟩,os,o1⟩;rw[o1];cases os with
 |nil=>
  rw[HY];refine h2.imp (λh=>by rw[hL];simpa using h) (λ⟨q,a,b,c,d⟩=>⟨q,a,b,c,Om⟩)
 |cons q os=>
  let⟨a1,a2,a3,_⟩:=o3 q Si;dsimp only at a2 a3;exact .inr ⟨q,Si,a1,Om,Om⟩
def Tld.set(h:Tld k len H){m m1:MS}(hm:H.ms[i]?=some m)(hb:m1.x.g.base<=k)(h1:m1.ap=m.ap)(h2:m1.l=m.l)(e:H'.ms=H.ms.set i (doneS i m1 H.out).1)(eo:H'.out=(doneS i m1 H.out).2):Tld k len H':=by
 have hi:=h i m hm;rw[<-h1,<-h2]at hi;let⟨t1,os,t2⟩:=vu (m:=m1) (o:=H.out) hb hi;intro j mj hj;rw[e]at hj;by_cases ej:i=j;.subst ej;rw[Hz (Gj.1 hm).1]at hj;obtain rfl:=GU hj;rw[eo];exact t1
 rw[HC ej]at hj;let⟨a,b⟩:=h j mj hj;refine⟨a,b.imp id λ⟨q,c,d⟩=>⟨q,by rw[eo,t2];exact GT _ c,d⟩⟩
theorem Tld.tick(h:Tld k len H)(hp:p<n)(hlen:H.ms.length=n)(hb:((H.tickS p).nd p).g.base<=k):Tld k len (H.tickS p):=by
 have hm:H.ms[p]?=some H.ms[p]:=b7 Om;have e:H.tickS p=H.doneS p H.ms[p].tickS.1 H.ms[p].tickS.2:=by unfold GS.tickS;rw[hm]
 have hx:(H.tickS p).nd p=(H.nd p).tickP.q:=by rw[(dE (H:=H) (i:=p) Om).1 p,an rfl]
 rw[hx,qL hm]at hb;exact h.set hm (m1:=H.ms[p].tickS.1) hb rfl rfl (by rw[e];rfl) (by rw[e];rfl)
def Tld.del(h:Tld k len H)(hlen:H.ms.length=n)(hb:∀i,i<n->((H.delS 0).nd i).g.base<=k)(hq:H.q=m::l):Tld k len (H.delS 0):=by
 cases hs:H.st with
 |nil=>unfold GS.q at hq;rw[hs]at hq;cases hq
 |cons x r=>
  have hx:x.2=m:=by unfold GS.q at hq;rw[hs]at hq;injection hq
  unfold GS.delS;rw[hs,pr,Bi,an rfl];split
  .rename_i ht;cases hm:H.ms[x.2.to.toNat]? with
   |none=>exact h
   |some mi=>
    have hin:x.2.to.toNat<n:=by have:=(Gj.1 hm).1;omega
    have hxx:(H.delS 0).nd x.2.to.toNat=((H.nd x.2.to.toNat).receiveP m).q:=by rw[(pT (i:=x.2.to.toNat) hq (by rw[<-hx];omega) Om).1,an rfl]
    have hb2:=hb _ hin;rw[hxx,qL hm]at hb2;exact h.set hm (m1:=(mi.recvS x.2).1) (by rw[hx];exact hb2) rfl rfl rfl rfl
  exact h
def tM(hl:LW n (c+(n+200)) (d+n) H)(h:BQ n k H/\Tld k len H):BQ n k (H.roundS n)/\Tld k len (H.roundS n):=by
 let⟨h1,l1⟩:=ZT (J:=λ_ H=>H.ms.length=n/\BQ n k H/\Tld k len H) (λp H1 hp hs hj=>by
  have hb:=hj.2.1.tick hp hs;exact⟨by rw[(dE (H:=H1) (i:=p) (by rw[hj.1];exact hp)).2.2];exact hj.1,hb,hj.2.2.tick hp hj.1 (hb.b p hp)⟩) ⟨hl.len.1,h⟩ (Gl n) (c:=c+200) (d:=d) (by rw[show c+200+n=c+(n+200)by omega];exact hl)
 have h2:=jV (J:=λH=>BQ n k H/\Tld k len H) (λm l H1 hs hq hj=>by
  have hb:=hj.1.del hs hq;have hlen:H1.ms.length=n:=by obtain⟨_,_,_,_,_,_,_,_,_,e⟩:=hs;exact e
  exact⟨hb,hj.2.del hlen hb.b hq⟩) (k:=200) l1 h1.2
 exact h2.1
def ij{n:Nat}{k:Int}{len:Nat}:∀{j c d:Nat} {H:GS},LW n (c+j*(n+200)) (d+j*n) H->BQ n k H/\Tld k len H->BQ n k (H.roundsS n j)/\Tld k len (H.roundsS n j)
 |0,_,_,_,_,h=>h
 |j+1,c,d,H,hl,h=>by
  have hl1:LW n (c+j*(n+200)+(n+200)) (d+j*n+n) H:=by
   rw[show c+j*(n+200)+(n+200)=c+(j+1)*(n+200)by rw[G4];omega,show d+j*n+n=d+(j+1)*n by rw[G4];omega];exact hl
  rw[XP];exact ij (LW.round hl1) (tM hl1 h)
def SW.later{G':GS}(h:SW n G W)(f:∀Γ,SafeI n Γ G->Later n Γ G'):SW n G' W:=by
 let⟨Γ,h1,h2⟩:=h;let⟨Δ,h3,h4⟩:=f Γ h1;exact⟨Δ,h4,h2.mono h3⟩
def SW.ticks{n c d:Nat}{G:GS}{W:WS}(h:SW n G W):∀{k:Nat},k<=n->GJ n (c+k) (d+k) G->SW n (G.ticks k) W
 |0,_,_=>h
 |k+1,hk,hj=>by
  rw[jo];exact(h.ticks (c:=c+1) (d:=d+1) (k:=k) Om (by rw[show c+1+k=c+(k+1)by omega,show d+1+k=d+(k+1)by omega];exact hj)).later λΓ hs=>aS hs ((yn n).ticks (c:=c+1) (d:=d+1) Om (by rw[show c+1+k=c+(k+1)by omega,show d+1+k=d+(k+1)by omega];exact hj)) k
def SW.dels{n c d:Nat}{G:GS}{W:WS}(h:SW n G W):∀{k:Nat},GJ n (c+k) d G->SW n (G.dels k) W
 |0,_=>h
 |k+1,hj=>by
  have ih:=h.dels (c:=c+1) (k:=k) (by rw[show c+1+k=c+(k+1)by omega];exact hj);show SW n (G.dels k).del1 W;unfold GS.del1;split;.exact ih.later λΓ hs=>av hs ((yn n).dels (c:=c+1) (by rw[show c+1+k=c+(k+1)by omega];exact hj)) 0
  exact ih
def SW.rounds{n:Nat}{G:GS}{W:WS}(h:SW n G W):∀{k c d:Nat},GJ n (c+k*(n+200)) (d+k*n) G->SW n (G.rounds n k) W
 |0,_,_,_=>h
 |k+1,c,d,hj=>by
  have e1:c+(k+1)*(n+200)=c+200+n+k*(n+200):=by rw[G4];omega
  have e2:d+(k+1)*n=d+n+k*n:=by rw[G4];omega
  rw[e1,e2]at hj;have h1:=h.rounds (k:=k) hj;have h2:=(yn n).rounds (k:=k) hj;exact(h1.ticks (Gl n) h2).dels ((yn n).ticks (Gl n) h2)
def SW.outs(h:SW n G W):SW n G.outs W:=by
 let⟨Γ,h1,h2⟩:=h;exact⟨Γ,⟨h1.hi,h1.ms,h1.msg⟩,h2⟩
def PZ.gj(h:PZ n τ G)(hτ:τ<=4000):GJ n 86000 8000 G:=by
 let⟨⟨a,t,I,h1,h2,g,_⟩,_⟩:=h;exact⟨a,t,I,Om,Om,g⟩
def SW.crashK{n τ:Nat}{G:GS}{W:WS}(h:SW n G W)(hz:PZ n τ G)(keep:Int)(hτ:τ+n<=4000):∀k,k<=n->SW n (G.crashK keep k) W
 |0,_=>h
 |k+1,hk=>(h.crashK hz keep hτ k Om).later λΓ hs=>ir hs ((yn n).leq (c:=1) (d:=0) Om Om ((gD hz keep Om k Om).1.gj Om)) k keep
def LW.outs{n c d:Nat}{H:GS}(h:LW n c d H):LW n c d H.outs:=by
 obtain⟨G,Γ,⟨⟨a,t,I,h1,h2,h3⟩,h4⟩,h5,rfl⟩:=h;exact⟨G.outs,Γ,⟨⟨a,t,I,h1,h2,h3.outs⟩,h4⟩,⟨h5.hi,h5.ms,h5.msg⟩,rfl⟩
def LW.prop{n c d i:Nat}{H:GS}(h:LW n (c+1) (d+10) H)(hi:i<n){cmd:Bs}(hc:cmd.length<=100):LW n c d (H.propS i cmd).2:=by
 obtain⟨G,Γ,h1,h2,rfl⟩:=h;have hj:GJ n (c+1) (d+1) G:=(yn n).leq (Gl _) Om h1.1.gj;obtain⟨a,_,b⟩:=SJ11.prop (cmd:=cmd) ⟨hj,h1.2⟩ hi hc;obtain⟨Δ,_,h3⟩:=eS h2 hj i hc;exact⟨(G.propose i cmd).2,Δ,⟨h1.1.prop hi hc,a.2⟩,h3,b.symm⟩
def uI(x:ND)(c:Bs):(x.entryP c).g.base=x.g.base:=by
 unfold ND.entryP;rw[ZW];unfold ND.count;split<;>rfl
def wP(ho:x.out=[])(hm:m∈x.feedAll.out)(h4:m.kind=4):m.index=x.g.base:=by
 rw[ZS ho]at hm;obtain⟨m1,hm1,rfl⟩:=Gu.1 hm;obtain⟨j,_,rfl⟩:=Gu.1 hm1;exact ax h4
def CX(c:Bs)(ho:x.out=[])(hm:m∈(x.entryP c).out)(h4:m.kind=4):m.index=x.g.base:=by
 unfold ND.entryP at hm;have e:=wP (x:=ND.count _) (by unfold ND.count;split<;>exact ho) hm h4;rw[e];unfold ND.count;split<;>rfl
def St.bq(h:St n L T k t w H):BQ n k H/\Tld k w.length H:=by
 have hl:=h.l;let⟨p,hp,h⟩:=h;refine⟨⟨λi hi=>?_,λm hm=>?_⟩,λi m hm=>?_⟩;.let⟨m,hm⟩:=h.mem hi;rw[qL hm];exact(h.ms i m hm).1.at.1
 .unfold GS.q at hm;rw[h.st]at hm;cases hm
 let⟨e1,e2⟩:=hl m (Gv hm);exact⟨Om,.inl (by rw[e1])⟩
def St.outs(h:St n L T k t w H):St n L T k t w H.outs:=by
 let⟨p,hp,h⟩:=h;exact⟨p,hp,h.len,h.lt,h.ms,h.st⟩
def u6(hlen:H.ms.length=n)(hL:L<n)(ho:(H.nd L).out=[])(hr:(H.nd L).role=2)(h:BQ n k H/\Tld k len H):BQ n k (H.propS L cmd).2/\Tld k len (H.propS L cmd).2:=by
 let⟨hb,ht⟩:=h;have hm:H.ms[L]?=some H.ms[L]:=b7 Om;have hx:H.nd L=H.ms[L].x:=qL hm;have e:(H.propS L cmd).2=H.doneS L {H.ms[L]with x:=((H.nd L).entryP cmd).q} ((H.nd L).entryP cmd).out:=by
  unfold GS.propS;rw[hm];dsimp only;unfold MS.propS;rw[<-hx,an hr]
 have hbL:((H.nd L).entryP cmd).g.base<=k:=by rw[uI];exact hb.b L hL
 rw[e];refine⟨⟨λi hi=>?_,λm hmq=>?_⟩,ht.set hm (m1:={H.ms[L]with x:=((H.nd L).entryP cmd).q}) hbL rfl rfl rfl rfl⟩
 .rw[od (H:=H) (i:=L) (m':=(doneS L {H.ms[L]with x:=((H.nd L).entryP cmd).q} H.out).1) Om rfl i];split;.rw[bD];exact hbL
  exact hb.b i hi
 unfold GS.q at hmq;have hmq:m∈(H.st++XD H.last ((H.nd L).entryP cmd).out).map (·.2):=hmq;rw[Ie,kq]at hmq;rcases GE.1 hmq with hmq|hmq
 .exact hb.q m hmq
 intro h4;rw[CX cmd ho hmq h4];exact hb.b L hL
def xJ(h:St n L T k t w H)(hl:LW n 2600 80 H)(hn:n<=5)(hc0:¬cmd=[])(hc:cmd.length<=100):
  (H.outs.propS L cmd).1.1=k+1/\0<=k/\St n L T (k+1) T (w++[cmd]) ((H.outs.propS L cmd).2.roundsS n 10)/\∀i,i<n->∃o∈((H.outs.propS L cmd).2.roundsS n 10).out,o.node=i/\o.index=k+1:=by
 have hs:=h.outs;have hlo:=hl.outs;let⟨c1,c2⟩:=hs.cmd Om cmd (j:=10) Om;have hw:yy w cmd=w++[cmd]:=by unfold yy;rw[ac hc0]
 rw[hw]at c2;have hb:=hs.bq;have hlen:=hlo.len;let⟨p,hp,hP⟩:=hs;have hL:=hP.lt;let⟨mL,hmL⟩:=hP.mem hL;let⟨b1,b2,_⟩:=hP.ms L mL hmL;have b2:=b2 rfl;have hk:0<=k:=by have:=b1.at.1;have:=b1.base;omega
 have hq:=u6 (cmd:=cmd) hlen.1 hL (by rw[qL hmL];exact b1.out) (by rw[qL hmL];exact b2.role) hb;have hlp:LW n 2500 70 (H.outs.propS L cmd).2:=LW.prop (hlo.leq Om Om) hL hc;have ht:=(ij (j:=10) (c:=0) (d:=0) (hlp.leq Om Om) hq).2;have hl5:=c2.l;refine⟨c1,hk,c2,λi hi=>?_⟩;let⟨p5,hp5,hP5⟩:=c2;let⟨m,hm⟩:=hP5.mem hi;let⟨_,e⟩:=ht i m hm;let⟨e1,e2⟩:=hl5 m (Gv hm);rcases e with e|⟨o,o1,o2,o3,o4⟩
 .rw[e1]at e;simp at e
 exact⟨o,o1,o2,Om⟩
def EC{m:MS}(h:m∈G.ms):m.er∈G.er.ms:=List.mem_map_of_mem h
structure Rest2 (n L:Nat) (W1:WS) (ix:Int) (cmd:Bs) (G5:GS):Prop where
 at_:¬ix=0
 ld2:(G5.leads n).2=true
 k2:(∀i m,i<n->G5.ms[i]?=some m->m.dn=false->LookOK (Yn G5 W1 i) i m)/\yA G5 n (Yn G5 W1 n).ch
 told:∀i,i<n->∃o∈G5.out,o.node=i/\o.index=ix
 did:∃w:List Bs,∀m∈G5.ms,m.l=w++[cmd]/\ix<=m.ap
structure Rest1 (n L:Nat) (W:WS) (cmd:Bs) (G2:GS):Prop where
 l:L<n
 ld:G2.leads n=((L:Int),true)
 k1:(∀i m,i<n->G2.ms[i]?=some m->m.dn=false->LookOK (Yn G2 W i) i m)/\yA G2 n (Yn G2 W n).ch
 r:Rest2 n L (Yn G2 W n) (G2.outs.propose L cmd).1.1 cmd ((G2.outs.propose L cmd).2.rounds n 10)
def xI{G2:GS}{W1:WS}(hn:n<=5)(hS:St n L T k t w G2.er)(l2:LW n 4395 95 G2.er)(s2:SJ11 n 4395 6000 G2)(w3:SW n G2 W1)(hc0:¬cmd=[])(hc:cmd.length<=100):Rest2 n L W1 (G2.outs.propose L cmd).1.1 cmd ((G2.outs.propose L cmd).2.rounds n 10):=by
 have hL:L<n:=by obtain⟨_,_,h⟩:=hS;exact h.lt
 let⟨c1,c2,c3,c4⟩:=xJ hS (l2.leq Om Om) hn hc0 hc;have s3:SJ11 n 4395 6000 G2.outs:=⟨(yn n).outs _ _ _ s2.1,s2.2⟩;let⟨p1,p2,p3⟩:=SJ11.prop (c:=4394) (d:=5999) (i:=L) (cmd:=cmd) s3 hL hc;have eo:G2.outs.er=G2.er.outs:=rfl;rw[eo]at p2 p3;have w4:SW n (G2.outs.propose L cmd).2 W1:=w3.outs.later λΓ hs=>eS hs ((yn n).leq (c:=1) (d:=1) Om Om s3.1) L hc;obtain⟨P,hP⟩:∃P,P=G2.outs.propose L cmd:=⟨_,rfl⟩;rw[<-hP]at p1 p2 p3 w4|-;let⟨s5,e5⟩:=SJ11.rounds (n:=n) (k:=10) (c:=1000) (d:=1000) (G:=P.2) ⟨(yn n).leq Om Om p1.1,p1.2⟩;have w5:SW n (P.2.rounds n 10) W1:=w4.rounds (k:=10) (c:=1000) (d:=1000) ((yn n).leq Om Om p1.1);rw[<-p2]at c1;rw[<-p3,<-e5]at c3 c4;have k2:=w5.look s5.1;obtain⟨G5,hG5⟩:∃G5,G5=P.2.rounds n 10:=⟨_,rfl⟩;rw[<-hG5]at k2 c3 c4|-;refine⟨by rw[c1];omega,by rw[<-pj,c3.leads],⟨k2.1,k2.2.1⟩,λi hi=>?_,w,λm hm=>?_⟩;.let⟨o,o1,o2,o3⟩:=c4 i hi;exact⟨o,o1,o2,by rw[c1];exact o3⟩
 let⟨e1,e2⟩:=c3.l m.er (EC hm);exact⟨e1,by rw[c1];have:m.ap=k+1:=e2;omega⟩
def xK(hn:1<=n/\n<=5)(hw:SW n G W)(hz:PZ n 3600 G)(keep:Int)(hc0:¬cmd=[])(hc:cmd.length<=100):∃L,Rest1 n L W cmd ((G.crashK keep n).rounds n 400):=by
 let⟨z1,z2⟩:=gD hz keep Om n (Gl n);have w1:=hw.crashK hz keep Om n (Gl n);let⟨a1,a2,a3,a4,a5⟩:=F9 hn (z1.le (υ:=3605) Om) z2;obtain⟨G1,hG1⟩:∃G1,G1=G.crashK keep n:=⟨_,rfl⟩;rw[<-hG1]at w1 a1 a2 a3 a4 a5|-;obtain⟨L,T,k,t,w,hS⟩:∃L T k t w,St n L T k t w (G1.er.roundsS n 400):=by
  by_cases h1:n=1;.subst h1;exact Ff a1 a2 a3 a4
  exact nz ⟨Om,hn.2⟩ a1 a2 a3 a4
 let⟨s2,e2⟩:=SJ11.rounds (n:=n) (k:=400) (c:=4395) (d:=6000) (G:=G1) ⟨(yn n).leq Om Om a5.1,a5.2⟩;have l2:LW n 4395 95 (G1.er.roundsS n 400):=LW.rounds (k:=400) (a1.leq Om Om);have w2:SW n (G1.rounds n 400) W:=w1.rounds (k:=400) (c:=4395) (d:=6000) ((yn n).leq Om Om a5.1);rw[<-e2]at hS l2;obtain⟨G2,hG2⟩:∃G2,G2=G1.rounds n 400:=⟨_,rfl⟩;rw[<-hG2]at hS l2 s2 w2|-;have hL:L<n:=by obtain⟨_,_,h⟩:=hS;exact h.lt
 have k1:=w2.look s2.1;exact⟨L,hL,by rw[<-pj];exact hS.leads,⟨k1.1,k1.2.1⟩,xI hn.2 hS l2 s2 k1.2.2 hc0 hc⟩
def E8(n j:Nat)(G:GS)(W:WS):Prop:=SW n G W/\(j<=60->PZ n (60*j) G)
def D6(hn:1<=n/\n<=5):PlayOK n (GJ n) (E8 n) where
 init:=⟨(wb Om).init,λ_=>PZ.new Om⟩
 step:=λk G W e c d hb hs hj h=>by
  let⟨a,b,c⟩:=(wb Om).step k G W e c d hb hs hj h.1;exact⟨a,b,c,λhk=>((h.2 Om).doE hn Om hb hs).le Om⟩
def Bo(n:Nat)(S:Nat->GS->WS->Prop):Prop:=∀k G W keep cmd,k<=60->S k G W->¬cmd=[]->cmd.length<=100->∃L,Rest1 n L W cmd ((G.crashK keep n).rounds n 400)
def Fz(hn:1<=n/\n<=5):Bo n (E8 n):=λk G W keep cmd hk h hc0 hc=>xK hn h.1 ((h.2 hk).le Om) keep hc0 hc
def D8{R:Hp}{c:List Value}{y:List Int}(hl:c.length=2)(h:q9 2 1 (jE .i64) R c y):∃a b:Int,c=[.int .i64 a,.int .i64 b]:=by
 obtain⟨_,hy,hz⟩:=h;obtain⟨a,b,rfl⟩:=two hl;match y,hy with
 |[p,q],_=>
  have h0:=hz 0 Si;have h1:=hz 1 Si;obtain⟨e0,b0⟩:=h0;obtain⟨e1,b1⟩:=h1;simp at e0 e1;exact⟨p,q,by rw[e0,e1]⟩
section
variable{cx:Cx}{R:Hp}{L M:List Qj}{E:Env}{d:Option Tmp}{ty:TypeId}{p:String}{af:Array Edge}{g:Option (Nat×Bool)}{cs:List MV}{ms:List MS}{i:Nat}{c:MV}{m:MS}
def lH{σ:World}{w:World}(f:Find (Yj (Zw cs ms)) L M)(hc:cs[i]?=some c)(hm:ms[i]?=some m)(hs:Sat σ R L w):Sat σ R (Yi c m++Yj ((Zw cs ms).eraseIdx i)::M) w:=
 Sat.split (A:=gA (Yi c m)) (λ_ k=>k) (Sat.split (A:=Yj (Zw cs ms)) (As:=[gA (Yi c m),Yj ((Zw cs ms).eraseIdx i)]) (cF (yK hc hm)) (hs.find f))
def cM{x:Operand}{t e:TypeId}(hT:cx.P.underlying t=some (.slice e))(hc:cs[i]?=some c)(hm:ms[i]?=some m)(e1:ev E x=some c.vl)(f:Find (Yj (Zw cs ms)) L M):
  Yld cx E R L ⟨d,.call {callee:=.builtin .len,args:= #[x],argTypes:= #[t]},ty,p,af,g⟩ (.int .i64 m.l.length):=λa w hf hs=>by
 let⟨q,k,hq⟩:=Sat.pure (iz hc hm) (hs.find f);rw[hq]at e1;exact QV hT e1 a w hf hs
def rn{x y:Operand}{t e:TypeId}{ik:IntKind}{j:Int}(hT:cx.P.underlying t=some (.slice e))(hS:∀w,(sizeOf e).run cx.P w=.ok 1 w)(hc:cs[i]?=some c)(hm:ms[i]?=some m)(e1:ev E x=some c.vl)(e2:ev E y=some (.int ik j))
  (f:Find (Yj (Zw cs ms)) L M) (h:0<=j/\j<m.l.length):Yld cx E R L ⟨d,.indexAddr t x y,ty,p,af,g⟩ (qj c.vl (j.toNat*1)):=λa w hf hs=>by
 let⟨b,off,cap,hv,hcl⟩:=jJ (e:=9) (sz:=1) (n:=m.l.length) (v:=c.vl) (xs:=jM m.l) Om ((lH f hc hm hs).find Qm);rw[hcl];rw[hv]at e1;exact QE hT hS e1 e2 h a w hf hs
def tB{x:Operand}{t:TypeId}{s:Bs}(hT:ZZ cx.P t)(hc:cs[i]?=some c)(hm:ms[i]?=some m)(e:ev E x=some (qj c.vl j))(f:Find (Yj (Zw cs ms)) L M)(hu:m.l[j]?=some s):Yld cx E R L ⟨d,.load t x,ty,p,af,g⟩ (.string (Qs s)):=λa w hf hs=>by
 have hu:ZO (jM m.l) j=some (.string (Qs s)):=by rw[dP];unfold jM;rw[HD,hu];rfl
 let⟨b,off,h1,h2⟩:=jc (e:=9) (sz:=1) (n:=m.l.length) (v:=c.vl) (xs:=jM m.l) hu ((lH f hc hm hs).find Qm);rw[h1]at e;refine cL (L:=L) (R:=R) hT e (λw hs=>?_) a w hf hs;let⟨b',off',h1',h2'⟩:=jc (e:=9) (sz:=1) (n:=m.l.length) (v:=c.vl) (xs:=jM m.l) hu ((lH f hc hm hs).find Qm);rw[h1]at h1';cases h1';exact h2'
end
def bZ(ix:Int)(l:List OC):Nat->Int->Bool
 |0=>λ_=>false
 |k+1=>match l[k]? with
  |some o=>if o.index=ix then lf (bZ ix l k) o.node true else bZ ix l k
  |none=>bZ ix l k
def db{ix:Int}{l:List OC}{k:Nat}(h:l[k]?=some o):bZ ix l (k+1)=if o.index=ix then lf (bZ ix l k) o.node true else bZ ix l k:=by
 show(match l[k]? with|some o=>_|none=>_)=_;rw[h]
def sw{ix:Int}{l:List OC}{i:Int}{k:Nat}(h:bZ ix l k i=true):∀j,bZ ix l (k+j) i=true
 |0=>h
 |j+1=>by
  have ih:=sw h j;show bZ ix l (k+j+1) i=true;cases ho:l[k+j]? with
  |none=>show(match l[k+j]? with|some o=>_|none=>_:Int->Bool) i=true;rw[ho];exact ih
  |some o=>
   rw[db ho];split
   .unfold lf;split;.rfl
    exact ih
   exact ih
def Cm{ix:Int}{l:List OC}{i:Int}(h:∃o∈l,o.node=i/\o.index=ix):bZ ix l l.length i=true:=by
 let⟨o,ho,h1,h2⟩:=h;let⟨k,hk⟩:=Ik.1 ho;have hl:=(Gj.1 hk).1;have:=sw (ix:=ix) (l:=l) (i:=i) (k:=k+1) (by rw[db hk,an h2];unfold lf;rw[an h1.symm]) (l.length-(k+1));rw[show k+1+(l.length-(k+1))=l.length by omega]at this;exact this
def pu{R:Hp}{C3 c3 d3:Nat}{J3:Nat->Nat->GS->Prop}(hB3:Bud 3 C3 J3)(hj3:J3 (c3+10*(3+200)+1+60*(3+200)) (d3+10*3+1+60*3) (GS.new 3))(t:Int)(haw:AwOK t)
  {C:Nat} {JJ:Nat->Nat->Nat->GS->Prop} (hBB:∀n,Bud n C (JJ n)) {SS:Nat->Nat->GS->WS->Prop} (hSS:∀n,1<=n/\n<=5->PlayOK n (JJ n) (SS n)) (hLL:∀n,1<=n/\n<=5->Bo n (SS n)) (hcd:84100<=c/\2100<=d) (hC:∀n,n<=5->n*C<=n*c+100000) (hJJ:∀n,1<=n/\n<=5->JJ n (c+3600) (d+3600) (GS.new n)) (ca:List Value) (yc:List Int) (hlc:ca.length=2) (hca:q9 2 1 (jE .i64) R ca yc) (va:Value) (ys:List xg) (h0:lp 4 EB R [va] ys) (cmd:Bs) (hcm:cmd.length<=maxLen):
  Tri prog 3 [.agg ⟨ca⟩,va,.string (Qs cmd)] R [] (λv R' L'=>v=.bool true):=by
 obtain⟨ni,keep,rfl⟩:=D8 hlc hca
 obtain⟨hva,hbd⟩:=Ez h0
 obtain⟨l,hl⟩:∃l,l=ys.map i5:=⟨_,rfl⟩
 rw[<-hl]at hva hbd
 unfold maxLen at hcm
 refine To func3 ntmps3 λ_ F _ r_ _ _=>?_
 try simp[cB]
 refine XN λK1 hK1=>Qc ?_
 refine Xc Qo rfl rfl rfl (λba=>?_)
 refine Ps (Qd (hK1 _ _ _ (XN λK2 hK2=>?_)))
 refine dW ?_
 refine Qa (cN underlying22 GQ rfl rfl Qu) ?_
 refine Qa (La o3) ?_
 refine Qa (cN underlying22 GQ rfl rfl Qu) ?_
 refine Qa (La o3) ?_
 refine Qa Xs ?_
 refine Qa Xs ?_
 refine Xj ?_
 refine hK2 _ _ _ (cS λ_ k3=>cS λ_ k4=>Qc ?_)
 refine Ra call9 (xa hB3 hj3 t haw) ?_
 rintro r R1 L' hR1 ⟨rfl,rfl⟩
 try simp[cB]
 refine Pa Xa (Qd (k4 (Qt rfl (Qh (k3 (cS λ_ k5=>cS λ_ k6=>Qc ?_))))))
 refine Pm ?_
 refine Pa QR (Pm ?_)
 refine QM 32 rfl (λhg32=>?_) (λhg32=>?_)
 try simp[dx]at hg32
 refine Pk (Pk ?_)
 refine Pa Qq (Pm (Pk (Pk (Pk ?_))))
 refine Pa Qq (Pm (Pk (Pk ?_)))
 refine Pa Qq (Pm (Pk (Pk (Pk ?_))))
 refine Pa Qq (Qd (k6 ?_))
 refine cE [1,2,7,8,49] ?_
 refine QD rfl (cS λ_ k7=>Qc (Ps (Qd (k7 (Qg (r_ ?_))))))
 refine Er KX [] (by first|exact hR1|exact Hp.le_refl _|exact Hp.le_trans (Hp.le_trans hR1 hR3) (Hp.le_trans hR4 (Hp.le_trans hR5 (Hp.le_trans hR6 (Hp.le_trans hR8 (Hp.le_trans hR9 hR10)))))) ?_
 rfl
 try simp[dx]at hg32
 refine Pb Qf ?_
 refine Pb XG ?_
 refine Pa Qn (Pm ?_)
 refine QM 36 rfl (λhg36=>?_) (λhg36=>?_)
 try simp[dx]at hg36
 refine Pk (Pk (Pk ?_))
 refine Pa Qq (Pm (Pk (Pk ?_)))
 refine Pa Qq (Pm (Pk (Pk (Pk ?_))))
 refine Pa Qq (Qd (k6 ?_))
 refine cE [1,2,7,8,49] ?_
 refine QD rfl (cS λ_ k8=>Qc (Ps (Qd (k8 (Qg (r_ ?_))))))
 refine Er KX [] (by first|exact hR1|exact Hp.le_refl _|exact Hp.le_trans (Hp.le_trans hR1 hR3) (Hp.le_trans hR4 (Hp.le_trans hR5 (Hp.le_trans hR6 (Hp.le_trans hR8 (Hp.le_trans hR9 hR10)))))) ?_
 rfl
 try simp[dx]at hg36
 refine Pb Qf ?_
 refine XW (cP rfl) rfl call10 rfl (vD va l (hva.mono hR1) 60) Za (λ_ _ _ _ h=>h.elim) ?_
 rintro r R2 L' hR2 ⟨⟨s,rfl,hs⟩,rfl,rfl⟩
 try simp[cB]
 refine Pb Xa ?_
 refine Pa Qn (Pm ?_)
 refine QM 41 rfl (λhg41=>?_) (λhg41=>?_)
 try simp[dx]at hg41
 refine Pk (Pk ?_)
 refine Pa Qq (Pm (Pk (Pk (Pk ?_))))
 refine Pa Qq (Qd (k6 (QD rfl (cS λ_ k9=>Qc ?_))))
 refine Ps (Qd (k9 (Qg (r_ ?_))))
 refine Er KX [] (by first|exact hR1|exact Hp.le_refl _|exact Hp.le_trans (Hp.le_trans hR1 hR3) (Hp.le_trans hR4 (Hp.le_trans hR5 (Hp.le_trans hR6 (Hp.le_trans hR8 (Hp.le_trans hR9 hR10)))))) ?_
 rfl
 try simp[dx]at hg41
 refine Pb Qf ?_
 refine Pb bH ?_
 refine Pa Qn (Pm ?_)
 refine QM 45 rfl (λhg45=>?_) (λhg45=>?_)
 try simp[dx]at hg45
 refine Pk (Pk (Pk ?_))
 refine Pa Qq (Qd (k6 ?_))
 refine cE [1,2,7,8,49] ?_
 refine QD rfl (cS λ_ k10=>Qc (Ps (Qd (k10 (Qg (r_ ?_))))))
 refine Er KX [] (by first|exact hR1|exact Hp.le_refl _|exact Hp.le_trans (Hp.le_trans hR1 hR3) (Hp.le_trans hR4 (Hp.le_trans hR5 (Hp.le_trans hR6 (Hp.le_trans hR8 (Hp.le_trans hR9 hR10)))))) ?_
 rfl
 try simp[dx]at hg45
 refine Pb Qf ?_
 refine Pb (YP GZ) ?_
 refine Pb XG ?_
 refine Pa Qn (Qd (k6 ?_))
 refine Qi rfl (λhc49=>?_) (λhc49=>?_)
 try simp[dx]at hc49
 refine cS λ_ k12=>Qc (Ps (Qd (k12 (Qg (r_ ?_)))))
 refine Er KX [] (by first|exact hR1|exact Hp.le_refl _|exact Hp.le_trans (Hp.le_trans hR1 hR3) (Hp.le_trans hR4 (Hp.le_trans hR5 (Hp.le_trans hR6 (Hp.le_trans hR8 (Hp.le_trans hR9 hR10)))))) ?_
 rfl
 have hsx:s=true:=by have hz:=hg41;simpa using hz
 have hs60:=(hs hsx).1
 have hsm:=(hs hsx).2
 have hc0:¬cmd=[]:=by have hz:=hg45;simpa using hz
 have hc100:cmd.length<=100:=by have hz:=hc49;simp[decide_eq_false_iff_not]at hz;omega
 obtain⟨n,rfl⟩:∃n:Nat,ni=(n:Int):=⟨ni.toNat,by(try simp at hg32 hg36);omega⟩
 have hn:1<=n/\n<=5:=by(try simp at hg32 hg36);omega
 obtain⟨J,hJe⟩:∃J,J=JJ n:=⟨_,rfl⟩
 obtain⟨S,hSe⟩:∃S,S=SS n:=⟨_,rfl⟩
 have hB:=hBB n
 have hj:=hJJ n hn
 have hS:=hSS n hn
 have hLL:=hLL n hn
 have hCn:=hC n hn.2
 rw[<-hJe]at hB hj hS
 rw[<-hSe]at hS hLL
 clear hJe hSe
 refine Qh (k5 (cS λ_ k13=>Qc (Pm (Pm ?_))))
 refine Ra call11 (D5 n Om hB hS l va (hva.mono hR1) hbd hsm c d hCn (hB.leq Om Om hj)) ?_
 rintro r R3 L' hR3 ⟨w,G,bw,v,W,rfl,hR3',hok,hv,hSG,hjG,rfl⟩
 try simp[cB]
 refine Pm ?_
 refine Pa Ql ?_
 refine Pa Ql ?_
 refine Pa Ql (Ps (Ps (Ps (Qd (k13 (cS λ_ k14=>cS λ_ k15=>Qc ?_))))))
 refine Pm ?_
 refine Pa Xa (Qd (k15 (Qt rfl (Qh (k14 (cS λ_ k16=>cS λ_ k17=>?_))))))
 have hj0:J (10*(n+200)+1+400*(n+200)+(n-0)) (10*n+1+400*n) G:=hB.leq Om Om hjG
 obtain⟨L,hRs⟩:=hLL l.length G W keep cmd Om hSG hc0 hc100
 refine Qc (Pm (Pm (Qd (k17 (Qp ?_)))))
 refine Lp (λ(x:Nat×GV×Hp)=>[(2,.string (Qs cmd)),(7,.int .i64 (n:Int)),(8,.int .i64 keep),(9,.pointer (some ⟨w.g,0,none⟩)),(10,.pointer (some ⟨bw,0,none⟩)),(59,.int .i64 (n:Int)),(60,.int .i64 (x.1:Int))]) (λx=>x.2.2) (λx=>me bw v W++(YN x.2.1 (G.crashK keep x.1)++F)) (λx=>x.1<=n/\(∃vn css vo cs,x.2.1=⟨w.g,w.va,w.n,vn,css,vo,cs⟩)/\GOk x.2.2 x.2.1 (G.crashK keep x.1)/\R3.le x.2.2/\J (10*(n+200)+1+400*(n+200)+(n-x.1)) (10*n+1+400*n) (G.crashK keep x.1)) (λx=>n-x.1) (0,w,R3) (⟨Si,⟨_,_,_,_,rfl⟩,hok,Hp.le_refl _,hj0⟩) ?_
 rintro⟨i,w1,R4⟩ ⟨hi,hg1,hok1,hR4,hjK⟩
 try dsimp only
 dsimp only at hi hg1 hok1 hR4 hjK
 obtain⟨vn1,css1,vo1,cs1,rfl⟩:=hg1
 refine cS λ_ k18=>Qc ?_
 refine Pa QR (Qd (k18 (cS λ_ k19=>?_)))
 refine Qi rfl (λhc61=>?_) (λhc61=>?_)
 try simp[dx]at hc61
 refine Qh (k19 (cS λ_ k21=>Qp (cS λ_ k22=>?_)))
 have hi2:i<n:=by have hz:=hc61;omega
 have hjK1:J (10*(n+200)+1+400*(n+200)+(n-(i+1))+1) (10*n+1+400*n) (G.crashK keep i):=hB.leq Om Om hjK
 have hjc:=hB.crash _ _ _ i keep hi2 hjK1
 refine Qc (Pm (Ps (Qd (k22 (Qc (Pm (Pm (Pm ?_))))))))
 refine Ra call12 (mQ ⟨w.g,w.va,w.n,vn1,css1,vo1,cs1⟩ (G.crashK keep i) i keep hok1 (by rw[hB.ln _ _ _ hjK1];exact hi2) (hB.gw _ _ _ hjK1) (λm hm=>hB.opens _ _ _ i m keep hjK1 hm)) ?_
 rintro x R5 L' hR5 ⟨vn2,css2,vo2,cs2,hok2,rfl⟩
 rw[show(G.crashK keep i).crash i keep=G.crashK keep (i+1)from rfl]at hok2|-
 try simp[cB]
 refine Qd (k21 ?_)
 refine cE [2,7,8,9,10,59,60] ?_
 refine Qc ?_
 refine Pa Qz (Pm (Qd ?_))
 refine ro rfl (rd ((i+1,⟨w.g,w.va,w.n,vn2,css2,vo2,cs2⟩,R5)) (⟨by dsimp only;omega,⟨_,_,_,_,rfl⟩,hok2,Hp.le_trans hR4 hR5,hjc⟩) Do)
 try simp[dx]at hc61
 refine QG (k16 (cS λ_ k23=>?_))
 obtain rfl:n=i:=by have hz:=hc61;omega
 rw[Nat.sub_self,I7]at hjK
 have hjr:=hB.rounds (k:=400) (c:=10*(n+200)+1) (d:=10*n+1) hjK
 obtain⟨G2,hG2⟩:∃G2,G2=(G.crashK keep n).rounds n 400:=⟨_,rfl⟩
 rw[<-hG2]at hRs hjr
 have hL:=hRs.l
 have hjo:=hB.outs _ _ _ hjr
 have hjp:=hB.prop _ _ _ L cmd hL hc100 hjo
 obtain⟨P,hP⟩:∃P,P=G2.outs.propose L cmd:=⟨_,rfl⟩
 have hR2:=hRs.r
 rw[<-hP]at hR2 hjp
 have hj5:=hB.rounds (k:=10) (c:=0) (d:=0) (by rw[H4,H4];exact hjp)
 obtain⟨G5,hG5⟩:∃G5,G5=P.2.rounds n 10:=⟨_,rfl⟩
 rw[<-hG5]at hR2 hj5
 have hln5:=hB.ln _ _ _ hj5
 have hgw5:=hB.gw _ _ _ hj5
 have hot:=hgw5.out
 refine Qc (Pm (Pm ?_))
 refine Ra call13 (eF ⟨w.g,w.va,w.n,vn1,css1,vo1,cs1⟩ (G.crashK keep n) n 400 (10*(n+200)+1) (10*n+1) C hB Om Om hok1 hjK) ?_
 rintro x R5 L' hR5 ⟨rfl,vn2,css2,vo2,cs2,hok2,rfl⟩
 rw[<-hG2]at hok2|-
 rw[hRs.ld]
 try simp[cB]
 refine Pm ?_
 refine Pa Ql ?_
 refine Pa Ql (Ps (Ps (Qd (k23 (cS λ_ k24=>cS λ_ k25=>Qc ?_)))))
 refine Pm ?_
 refine Pa Xa (Pm ?_)
 refine Pb Qf ?_
 refine Pb Qf ?_
 refine Pb Qf ?_
 refine XW (cP rfl) rfl call14 rfl (pb bw v W ⟨w.g,w.va,w.n,vn2,css2,vo2,cs2⟩ G2 n (hB.ln _ _ _ hjr).symm hok2 (hB.gw _ _ _ hjr) hv hRs.k1.1 hRs.k1.2) Za (λ_ _ _ _ h=>h.elim) ?_
 rintro r R6 L' hR6 ⟨rfl,_,v2,hv2,rfl⟩
 try simp[cB]
 refine Pb Xa ?_
 refine Pa Qn (Qd (k25 (Qt rfl (Qh (k24 (cS λ_ k26=>Qc ?_))))))
 refine Pm ?_
 refine Ra call15 (dt ⟨w.g,w.va,w.n,vn2,css2,vo2,cs2⟩ G2 (hok2.mono hR6)) ?_
 rintro vo8 R7 L' hR7 ⟨rfl,rfl,vn3,css3,vo3,cs3,hok3,rfl⟩
 try simp[cB]
 refine Qd (k26 ?_)
 refine cE [2,7,9,10,13] ?_
 refine cS λ_ k27=>Qc (Pm (Pm (Pm ?_)))
 refine Ra call16 (dq ⟨w.g,w.va,w.n,vn3,css3,vo3,cs3⟩ G2.outs L cmd hc100 hok3 (by rw[hB.ln _ _ _ hjo];exact hL) (hB.gw _ _ _ hjo) (by rw[<-hP];exact hB.gw _ _ _ hjp)) ?_
 rintro x R8 L' hR8 ⟨rfl,vn4,css4,vo4,cs4,hok4,rfl⟩
 rw[<-hP]at hok4|-
 try simp[cB]
 refine Pm ?_
 refine Pa Ql ?_
 refine Pa Ql (Ps (Ps (Qd (k27 (cS λ_ k28=>Qc ?_)))))
 refine Pm (Pm ?_)
 refine Ra call13 (eF ⟨w.g,w.va,w.n,vn4,css4,vo4,cs4⟩ P.2 n 10 0 0 C hB Om Om hok4 (by rw[H4,H4];exact hjp)) ?_
 rintro x R9 L' hR9 ⟨rfl,vn5,css5,vo5,cs5,hok5,rfl⟩
 rw[<-hG5]at hok5|-
 rw[hR2.ld2]
 try simp[cB]
 refine Pm ?_
 refine Pa Ql ?_
 refine Pa Ql (Ps (Ps (Qd (k28 (cS λ_ k29=>cS λ_ k30=>Qc ?_)))))
 refine Pm ?_
 refine Pa ((Yld.to (u:=.bool false) QL (by rw[decide_eq_false hR2.at_]))) (Pm ?_)
 refine Pb Qf ?_
 refine Pb Xa ?_
 refine Pa Qn (Pm ?_)
 refine Pb Qf ?_
 refine Pb Qf ?_
 refine Pb Qf ?_
 refine XW (cP rfl) rfl call14 rfl (pb bw v2 (Yn G2 W n) ⟨w.g,w.va,w.n,vn5,css5,vo5,cs5⟩ G5 n hln5.symm hok5 hgw5 hv2 hR2.k2.1 hR2.k2.2) Za (λ_ _ _ _ h=>h.elim) ?_
 rintro r R10 L' hR10 ⟨rfl,_,v3,hv3,rfl⟩
 try simp[cB]
 refine Pb Xa ?_
 refine Pa Qn (Qd (k30 ?_))
 refine cE [2,7,9,15,110] ?_
 refine Qt rfl (Qh (k29 (cS λ_ k31=>Qc ?_)))
 refine eG (ik:=.i64) Qo rfl (λbm=>?_)
 refine Ps (Qd (k31 (cS λ_ k32=>cS λ_ k33=>Qc ?_)))
 refine Pm ?_
 refine Ra call15 (dt ⟨w.g,w.va,w.n,vn5,css5,vo5,cs5⟩ G5 (hok5.mono hR10)) ?_
 rintro vo9 R11 L' hR11 ⟨rfl,rfl,vn6,css6,vo6,cs6,hok6,rfl⟩
 try simp[cB]
 refine Pa (Zf JW) (Pm (Qd (k33 (Qp ?_))))
 refine Lp (λ(y:Nat×(Int->Option Value)×Nat)=>[(2,.string (Qs cmd)),(7,.int .i64 (n:Int)),(9,.pointer (some ⟨w.g,0,none⟩)),(15,.int .u64 P.1.1),(19,.map (some bm)),(113,vo9),(114,.int .i64 (G5.out.length:Int)),(115,.int .i64 (y.1:Int))]) (λy=>R11) (λy=>qN bm .i64 y.2.1 y.2.2::cZ vo9 G5.out::(YN ⟨w.g,w.va,w.n,vn6,css6,vo6,cs6⟩ G5.outs++F)) (λy=>y.1<=G5.out.length/\MpB y.2.1 (bZ P.1.1 G5.out y.1)) (λy=>G5.out.length-y.1) (0,(λ_=>none),0) (⟨Si,λ_=>rfl⟩) ?_
 rintro⟨k,f1,n1⟩ ⟨hk,hmk⟩
 try dsimp only
 dsimp only at hk hmk
 refine cS λ_ k34=>Qc ?_
 refine Pa QR (Qd (k34 (cS λ_ k35=>?_)))
 refine Qi rfl (λhc116=>?_) (λhc116=>?_)
 try simp[dx]at hc116
 refine Qh (k35 (cS λ_ k37=>Qp (cS λ_ k38=>?_)))
 have hk2:k<G5.out.length:=by have hz:=hc116;omega
 obtain⟨⟨nd,ix,tm,ot⟩,ho⟩:∃o,G5.out[k]?=some o:=⟨_,b7 hk2⟩
 refine Qc ?_
 refine Pa ((Xn (sz:=4) (n:=G5.out.length) JW sizeOf41)) ?_
 refine Pa ((jZ (sz:=4) (n:=G5.out.length) (vs:=[.int .i64 nd,.int .u64 ix,.int .u64 tm,.string (Qs ot)]) FW rfl Qm (Cd ho) rfl Om)) ?_
 refine QC Qo rfl Mv rfl (λb21=>?_)
 refine Sm (vs:=[.int .i64 nd,.int .u64 ix,.int .u64 tm,.string (Qs ot)]) FW (Ce (o:=⟨nd,ix,tm,ot⟩)) ?_
 refine Qd (k38 (cS λ_ k39=>Qc ?_))
 refine Pa (Ga Mb Gw) ?_
 refine Pa (La QO) (Pm ?_)
 refine Pa QL (Qd (k39 ?_))
 refine Qi rfl (λhc122=>?_) (λhc122=>?_)
 have hix:ix=P.1.1:=by have hz:=hc122;simpa using hz
 refine Qc (Pm ?_)
 refine Pa (Ga Mb GQ) ?_
 refine Pa (La o3) ?_
 refine jt Kl HA Qo rfl rfl rfl Qm ?_
 refine Qd (k37 (Qc ?_))
 refine Pa Qz (Pm (Qd ?_))
 refine ro rfl (rd ((k+1,yv f1 nd (.bool true),if(f1 nd).isSome then n1 else n1+1)) (⟨by dsimp only;omega,by dsimp only;rw[db ho,an hix];exact hmk.set _ _⟩) Do)
 have hix:¬ix=P.1.1:=by have hz:=hc122;simpa using hz
 refine Qh (k37 (Qc ?_))
 refine Pa Qz (Pm (Qd ?_))
 refine ro rfl (rd ((k+1,f1,n1)) (⟨by dsimp only;omega,by dsimp only;rw[db ho,ac hix];exact hmk⟩) Do)
 try simp[dx]at hc116
 refine QG (k32 ?_)
 refine cE [2,7,9,15,19] ?_
 refine cS λ_ k41=>cS λ_ k42=>?_
 have hko:k=G5.out.length:=by have hz:=hc116;omega
 subst hko
 obtain⟨wl,hwl⟩:=hR2.did
 obtain⟨m00,hm00⟩:∃m,G5.outs.ms[0]?=some m:=⟨_,b7 (by show 0<G5.ms.length;omega)⟩
 obtain⟨c00,hc00,_,_⟩:=hok6.at hm00
 have hml0:=(hwl m00 (Gv hm00)).1
 refine Qc (Pm (Pm (Qd (k42 (Qp ?_)))))
 refine Lp (λ(y:Nat)=>[(2,.string (Qs cmd)),(7,.int .i64 (n:Int)),(9,.pointer (some ⟨w.g,0,none⟩)),(15,.int .u64 P.1.1),(19,.map (some bm)),(127,.int .i64 (n:Int)),(128,.int .i64 (y:Int))]) (λy=>R11) (λy=>qN bm .i64 f1 n1::(YN ⟨w.g,w.va,w.n,vn6,css6,vo6,cs6⟩ G5.outs++F)) (λy=>y<=n) (λy=>n-y) 0 Si ?_
 rintro j hj5
 try dsimp only
 refine cS λ_ k43=>Qc ?_
 refine Pa QR (Qd (k43 (cS λ_ k44=>?_)))
 refine Qi rfl (λhc129=>?_) (λhc129=>?_)
 try simp[dx]at hc129
 refine Qh (k44 (cS λ_ k46=>Qp (cS λ_ k47=>?_)))
 have hj2:j<n:=by have hz:=hc129;omega
 obtain⟨m0,hm0⟩:∃m,G5.outs.ms[j]?=some m:=⟨_,b7 (by show j<G5.ms.length;omega)⟩
 obtain⟨c0,hc0,_,_⟩:=hok6.at hm0
 have hmt:f1 (j:Int)=some (.bool true)\/(f1 (j:Int)).getD (.bool false)=.bool true:=.inr (by have hz:=hmk (j:Int);rw[Cm (hR2.told j hj2)]at hz;exact hz)
 have hmt:=hmt.elim (λh=>by rw[h];rfl) id
 obtain⟨hml,hap⟩:=hwl m0 (Gv hm0)
 have hl9:=(hgw5.ms m0 (Gv hm0)).l.1
 have hll:m0.l.length=wl.length+1:=by rw[hml];simp
 have hll0:m00.l.length=wl.length+1:=by rw[hml0];simp
 refine Qc (Pm (Ps (Qd (k47 (cS λ_ k48=>Qc ?_)))))
 refine Pm (Pm ?_)
 refine Pa (Ca call17 (kH (w:=⟨w.g,w.va,w.n,vn6,css6,vo6,cs6⟩) (G:=G5.outs) hc0 hm0)) (Ps (Qd (k48 (cS λ_ k49=>Qc ?_))))
 refine Pm (Pm ?_)
 refine Pa ((Yld.to (u:=.bool true) (nI Kl HA zeroValue4 rfl rfl Qm) (by exact hmt))) ?_
 refine Pa Xa (Pm ?_)
 refine Pb Qf ?_
 refine Pb ((cM HJ hc0 hm0 rfl Qm)) ?_
 refine Pb ((Yld.to (u:=.bool false) QL (by rw[decide_eq_false Om]))) ?_
 refine Pa Qn (Pm ?_)
 refine Pb Qf ?_
 refine Pb Qf ?_
 refine Pb ((cM HJ hc0 hm0 rfl Qm)) ?_
 refine Pb ((Yld.to (u:=.int .i64 (wl.length:Int)) Zs (by rw[hll];congr 1;omega))) ?_
 refine Pb ((Yld.to (u:=qj c0.vl wl.length) (rn HJ Ic hc0 hm0 rfl rfl Qm Om) Si)) ?_
 refine Pb ((tB (s:=cmd) o9 hc0 hm0 rfl Qm (by rw[hml];simp))) ?_
 refine Pb Qf ?_
 refine Pb ((Yld.to (u:=.bool false) (fA rfl rfl) Si)) ?_
 refine Pa Qn (Pm ?_)
 refine Pb Qf ?_
 refine Pb ((cM HJ hc0 hm0 rfl Qm)) ?_
 refine Pb Qf ?_
 refine Pb (Ca call17 (kH (w:=⟨w.g,w.va,w.n,vn6,css6,vo6,cs6⟩) (G:=G5.outs) (i:=0) hc00 hm00)) ?_
 refine Pb ((cM HJ hc00 hm00 rfl Qm)) ?_
 refine Pb ((Yld.to (u:=.bool false) Yp (by rw[hll,hll0];simp))) ?_
 refine Pa Qn (Pm ?_)
 refine Pb Qf ?_
 refine Pb Qf ?_
 refine Pb (Ca call18 (eX (w:=⟨w.g,w.va,w.n,vn6,css6,vo6,cs6⟩) (G:=G5.outs) hc0 hm0)) ?_
 refine Pb Qf ?_
 refine Pb ((Yld.to (u:=.bool false) QR (by rw[decide_eq_false Om]))) ?_
 refine Pa Qn (Qd (k49 ?_))
 refine cE [2,7,9,15,19,127,128,167] ?_
 refine Qt rfl (Qh (k46 (Qc ?_)))
 refine Pa Qz (Pm (Qd ?_))
 refine ro rfl (rd (j+1) Om Om)
 try simp[dx]at hc129
 refine QG (k41 ?_)
 refine cE [] ?_
 refine cS λ_ k50=>Qc (Ps (Qd (k50 (Qg (r_ ?_)))))
 refine Er KX [] (by first|exact hR1|exact Hp.le_refl _|exact Hp.le_trans (Hp.le_trans hR1 hR3) (Hp.le_trans hR4 (Hp.le_trans hR5 (Hp.le_trans hR6 (Hp.le_trans hR8 (Hp.le_trans hR9 hR10)))))) ?_
 rfl
def iV(a:Int):List Int->List Int
 |[]=>[a]
 |b::l=>if a<=b then a::b::l else b::iV a l
def kh(l:List Int):List Int:=l.foldr iV []
def gt(a:Int):∀l:List Int,(iV a l).Perm (a::l)
 |[]=>.refl _
 |b::l=>by
  unfold iV;split;.exact .refl _
  exact((gt a l).cons b).trans (.swap a b l)
def mM(a:Int):∀{l:List Int},l.Pairwise (λa b=>decide (a<=b)=true)->(iV a l).Pairwise (λa b=>decide (a<=b)=true)
 |[],_=>by simp[iV]
 |b::l,h=>by
  unfold iV;rw[Jt]at h;split
  .rename_i h1;refine Jt.2 ⟨λc hc=>?_,Jt.2 h⟩;rcases Gn.1 hc with hc|hc
   .subst hc;simpa using h1
   have:=h.1 c hc;simp at*;omega
  refine Jt.2 ⟨λc hc=>?_,mM a h.2⟩;rcases Gn.1 ((gt a l).mem_iff.1 hc)with hc|hc
  .subst hc;simp;omega
  exact h.1 c hc
def xw(l:List Int):l.mergeSort (λa b=>decide (a<=b))=kh l:=by
 have h1:=JT l (λa b=>decide (a<=b));have h2:=Ki (le:=λ(a b:Int)=>decide (a<=b)) (λa b c h1 h2=>by simp at*;omega) (λa b=>by simp;omega) l;have h3:(kh l).Perm l/\(kh l).Pairwise (λa b=>decide (a<=b)=true):=by
  unfold kh;clear h1 h2;induction l with
  |nil=>exact⟨.refl _,.nil⟩
  |cons a l ih=>exact⟨(gt a _).trans (ih.1.cons a),mM a ih.2⟩
 exact LP (le:=λ(a b:Int)=>decide (a<=b)=true) (λa b _ _ h1 h2=>by simp at*;omega) h2 h3.2 (h1.trans h3.1.symm)
def uo(x:ND):Int:=(kh x.reach).getD ((x.n-1)/2) 0
def kP(x:ND):ND:=if uo x>x.commit/\x.tAt (uo x)=x.g.term then{x with commit:=uo x}else x
def tc:ND.count=kP:=by funext x;unfold ND.count kP ND.mid uo;rw[xw]
def jH(s:NS)(cmd:Bs):Bool×NS:=Xo (QY s (s.1.g.addD s.2 s.1.g.last [(s.1.g.term,cmd)])) λs=>(true,((kP s.1).feedAll,s.2))
def sT:Xb=jH:=by funext s c;unfold Xb jH;rw[tc]
def tE(s:NS):Bool×NS:=jH (s.1.wins,s.2) []
def AN:qM=tE:=by funext s;unfold qM tE;rw[sT]
def oa(s:NS):Bool×NS:=Xo (QY s (s.1.g.setTermD s.2 (s.1.g.term+1) s.1.id)) λs=>
 if s.1.n=1 then tE (s.1.stands,s.2)else(true,(s.1.stands.askAll,s.2))
def BS:YF=oa:=by funext s;unfold YF oa;rw[AN]
def tO(s:NS):Bool×NS:=
 if s.1.role=2 then if s.1.patience+1>=3 then(true,({s.1 with patience:=0}.feedAll,s.2))else(true,({s.1 with patience:=s.1.patience+1},s.2))
 else if s.1.patience+1>=YA s.1.id s.1.g.term then oa ({s.1 with patience:=s.1.patience+1},s.2)else(true,({s.1 with patience:=s.1.patience+1},s.2))
def Dz:tickN=tO:=by funext s;unfold tickN tO;rw[BS]
def nM(s:NS)(m:Msg):Bool×NS:=
 if¬s.1.role=1\/¬m.term=s.1.g.term\/m.ok=false then(true,s)
 else if 2*((QS s.1.votes m.frm).length:Int)>s.1.n then tE ({s.1 with votes:=QS s.1.votes m.frm},s.2)
 else(true,({s.1 with votes:=QS s.1.votes m.frm},s.2))
def By:YE=nM:=by funext s m;unfold YE nM;rw[AN]
def pq(s:NS)(m:Msg):Bool×NS:=
 if¬s.1.role=2\/¬m.term=s.1.g.term then(true,s)
 else
  let to:=m.frm.toNat
  if m.ok=false then(true,((s.1.setPeer to (max (min (s.1.nxt to-1) (m.index+1)) (s.1.mat to+1),s.1.mat to)).feed to,s.2))
  else
   let k:=max (s.1.mat to) (min m.index s.1.g.last)
   let x:=kP (s.1.setPeer to (k+1,k))
   if k+1<=x.g.last then(true,(x.feed to,s.2))else(true,(x,s.2))
def CN:Ya=pq:=by funext s m;unfold Ya pq;rw[tc]
def nB(s:NS)(m:Msg):Bool×NS:=
 if m.kind=0 then ZY s m else if m.kind=1 then nM s m else if m.kind=2\/m.kind=4 then ZG s m else if m.kind=3 then pq s m else(true,s)
def El:YB=nB:=by funext s m;unfold YB nB;rw[By,CN]
def iI(s:NS)(m:Msg):Bool×NS:=
 if¬m.to=s.1.id\/m.frm=s.1.id\/m.frm<0\/m.frm>=s.1.n then(true,s)
 else if m.term>s.1.g.term then Xo (QY s (s.1.g.setTermD s.2 m.term (-1))) λs=>nB (s.1.newTerm,s.2) m
 else nB s m
def vV:Xz=iI:=by funext s m;unfold Xz iI;rw[El]
def jO(s:NS)(cmd:Bs):(Int×Int×List Msg)×NS:=
 if¬s.1.role=2 then((0,0,[]),s)else if Xy (Xw s (λs=>jH s cmd)).2=true then((0,0,[]),(Xw s (λs=>jH s cmd)).2)
 else(((Xw s (λs=>jH s cmd)).2.1.g.last,(Xw s (λs=>jH s cmd)).2.1.g.term,(Xw s (λs=>jH s cmd)).1),(Xw s (λs=>jH s cmd)).2)
def v9:XX=jO:=by funext s c;unfold XX jO;rw[sT]
def kw(m:MS):MS×List Msg:=m.act (Xw (m.x,m.D) tO)
def kx(m:MS)(g:Msg):MS×List Msg:=m.act (Xw (m.x,m.D) (λs=>iI s g))
def gl(m:MS)(c:Bs):(Int×Int)×(MS×List Msg):=(((jO (m.x,m.D) c).1.1,(jO (m.x,m.D) c).1.2.1),m.act ((jO (m.x,m.D) c).1.2.2,(jO (m.x,m.D) c).2))
def Cq:MS.tick=kw:=by funext m;unfold MS.tick kw;rw[Dz]
def Ct:MS.recv=kx:=by funext m g;unfold MS.recv kx;rw[vV]
def Cy:MS.prop=gl:=by funext m c;unfold MS.prop gl;rw[v9]
def pC(G:GS)(i:Nat):GS:=match G.ms[i]? with
 |none=>G
 |some m=>G.done i (kw m).1 (kw m).2
def CR:GS.tick=pC:=by funext G i;unfold GS.tick pC;rw[Cq];try rfl
def nD(G:GS)(k:Int):GS:=
 if Yb G.st k=true then
  if 0<=(XV G.st k).2.to then match G.ms[(XV G.st k).2.to.toNat]? with
   |none=>G.take k
   |some m=>(G.take k).done (XV G.st k).2.to.toNat (kx m (XV G.st k).2).1 (kx m (XV G.st k).2).2
  else G.take k
 else G
def Eo:GS.deliver=nD:=by funext G k;unfold GS.deliver nD;rw[Ct];try rfl
def wJ(G:GS)(i:Nat)(c:Bs):(Int×Int)×GS:=match G.ms[i]? with
 |none=>((0,0),G)
 |some m=>((gl m c).1,G.done i (gl m c).2.1 (gl m c).2.2)
def dS:GS.propose=wJ:=by funext G i c;unfold GS.propose wJ;rw[Cy];try rfl
def lR(G:GS)(k:Nat):GS:=(List.range k).foldl pC G
def Ae:GS.ticks=lR:=by funext G k;unfold GS.ticks lR;rw[CR]
def kI(G:GS):Nat->GS
 |0=>G
 |k+1=>if G.st.length>0 then kI (nD G 0) k else G
def m5(G:GS):∀k,G.dels (k+1)=G.del1.dels k
 |0=>rfl
 |k+1=>by
  show(G.dels (k+1)).del1=(G.del1.dels k).del1;rw[m5 G k]
def sN:∀(k:Nat) (G:GS),G.dels k=kI G k
 |0,G=>rfl
 |k+1,G=>by
  unfold kI;split;.rename_i h;rw[m5,sN k,show G.del1=nD G 0 by unfold GS.del1;rw[an h,Eo]]
  rename_i h;rw[i7 (k:=0) Om (by show G.st.length=0;omega)];rfl
def gY(G:GS)(n:Nat):GS:=kI (lR G n) 200
def Af:GS.round=gY:=by funext G n;unfold GS.round gY;rw[Ae,sN]
def iY(G:GS)(n:Nat):Nat->GS
 |0=>G
 |k+1=>gY (iY G n k) n
def ZV:∀(k:Nat) (G:GS) (n:Nat),G.rounds n k=iY G n k
 |0,_,_=>rfl
 |k+1,G,n=>by show(G.rounds n k).round n=gY (iY G n k) n;rw[ZV k,Af]
def F8:AwOK 1 where
 l1:=by rw[ZV];decide+kernel
 p:=by rw[ZV,dS];decide+kernel
 t0:=Dc
 l2:=by rw[ZV,ZV,dS];decide+kernel
 o:=by rw[ZV,ZV,dS];decide+kernel
 d:=λm hm=>by
  have h:(((((GS.new 3).rounds 3 60).propose 0 [97]).2.rounds 3 10).ms[0]?).map (λm=>m.l.length)=some 1:=by rw[ZV,ZV,dS];decide+kernel
  rw[hm]at h;simpa using h
 a:=λm hm=>by
  have h:(((((GS.new 3).rounds 3 60).propose 0 [97]).2.rounds 3 10).ms[1]?).map (λm=>m.ap)=some 2:=by rw[ZV,ZV,dS];decide+kernel
  rw[hm]at h;simpa using h
end V
end Go.Proofs.YtenfjpigffjgmaaGreat
namespace Go.Proofs.YtenfjpigffjgmaaGreat
open Go.ChangeShapes Go.WideShapes Go.ChangeAt Go.RowKit
open V
set_option maxHeartbeats 1000000 in
set_option maxRecDepth 100000 in
theorem GroupLives_holds_lifted(os:Os)(started:os.Started)(H:Type)(enc:TypeId×Value->H):
  ReturnsInHanded {} Tryz.checked os 3 .any (Rows.groupLivesSpec.pre6 enc Tryz.prog Tryz.f3 Rows.groupLivesRow.domain false) (Rows.groupLivesSpec.post enc Tryz.prog Tryz.f3 false true false false):=by
 refine returnsInHanded_of_change (C:=Tryz.checked) own started Kr Tryz.func3
  (ChangeSpec.witness6 (enc:=enc) (C:=Tryz.checked) false ⟨#[], #[.agg #[.int .i64 0,.int .i64 0],.slice none 0 0,.string ByteArray.empty],[]⟩ 8 Kr Kr Kr Kr) ?_
 intro W base args ds gs before hval0 hW hcnd _
 have hval:∀(j:Nat) t v,Tryz.f3.params[j]?=some t->args[j]?=some v->Value.okWide Tryz.prog W .any base t v:=hval0
 have hW':=hW
 obtain⟨p,q,hA0,hV,rfl,hfz,hnd⟩:=hW
 have hA:DataW.TrodAll enc Tryz.prog W 0 (λ_=>true) true Tryz.f3.params.toList args.toList ds p:=hA0
 rw[Tryz.params3]at hA hval
 obtain⟨v0,vs0,d0,ds0,p0,q0,hargs,rfl,rfl,t0,r0⟩:=trodAll_cons hA
 obtain⟨v1,vs1,d1,ds1,p1,q1,rfl,rfl,rfl,t1,r1⟩:=trodAll_cons r0
 obtain⟨v2,vs2,d2,ds2,p2,q2,rfl,rfl,rfl,t2,r2⟩:=trodAll_cons r1
 obtain⟨rfl,rfl,rfl⟩:=trodAll_nil r2
 obtain rfl:args= #[v0,v1,v2]:=by cases args;simp_all
 obtain⟨rfl,rfl⟩:=trodVars_none hV
 have lt0:∀x∈p0,x.block<W.heap.size:=by obtain⟨m,hm⟩:=t0;exact DataW.trod_lt m _ _ _ hm
 obtain⟨y0,h0⟩:∃y,(q9 2 1 (jE .i64)) (jA W) v0.cells.toList y:=by obtain⟨m,hm⟩:=t0;exact(vX Tryz.underlying22 Kr Kr (cV Tryz.underlying3)) W m _ _ hm
 obtain⟨c0,rfl,l0⟩:∃c:List Value,v0=.agg ⟨c⟩/\c.length=2:=by have:=(hval 0 22 v0 rfl rfl);unfold Value.okWide at this;rw[Tryz.underlying22]at this;obtain⟨cs,rfl,hsz,_⟩:=this;have e:Tryz.prog.cellsOf 22=2:=Kr;rw[e]at hsz;exact⟨cs.toList,rfl,by simpa using hsz⟩
 replace h0:(q9 2 1 (jE .i64)) (jA W) c0 y0:=h0
 have lt1:∀x∈p1,x.block<W.heap.size:=by obtain⟨m,hm⟩:=t1;exact DataW.trod_lt m _ _ _ hm
 obtain⟨y1,h1⟩:∃y,(lp 4 (ai 1 (jE .i64) (ai 1 (jE .i64) (ai 1 (jE .i64) n7)))) (jA W) v1.cells.toList y:=by obtain⟨m,hm⟩:=t1;exact(vW Tryz.underlying23 Kr Dc (oG Tryz.underlying53 Kr (dk rfl Kr (cV Tryz.underlying3) (dk rfl Kr (cV Tryz.underlying3) (dk rfl Kr (cV Tryz.underlying3) (ud rfl (mz Tryz.underlying9))))))) W m _ _ hm
 obtain⟨a1,len1,cap1,rfl⟩:=okWide_slice Tryz.underlying23 (hval 1 23 v1 rfl rfl)
 obtain⟨v1,hv1⟩:∃v,v=Value.slice a1 len1 cap1:=⟨_,rfl⟩
 replace h1:(lp 4 (ai 1 (jE .i64) (ai 1 (jE .i64) (ai 1 (jE .i64) n7)))) (jA W) [v1] y1:=by rw[hv1];exact h1
 have lt2:∀x∈p2,x.block<W.heap.size:=by obtain⟨m,hm⟩:=t2;exact DataW.trod_lt m _ _ _ hm
 obtain⟨y2,h2⟩:∃y,n7 (jA W) v2.cells.toList y:=by obtain⟨m,hm⟩:=t2;exact(mz Tryz.underlying9) W m _ _ hm
 obtain⟨n2,rfl⟩:=okWide_string Tryz.underlying9 (hval 2 9 v2 rfl rfl)
 obtain⟨e2,h2⟩:=h2
 obtain rfl:n2=Qs y2:=by simpa[Value.cells]using e2
 clear hA0 hval0
 subst hv1
 refine(ww (pu (c3:=10000) (d3:=1000) (yn 3) ((yn 3).leq Om Om (GJ.new Dc)) 1 F8 yn (SS:=E8) (λn hn=>D6 hn) (λn hn=>Fz hn) (c:=86400) (d:=5400) Dc (λn hn=>by omega) (λn hn=>(yn n).leq Om Om (GJ.new Om)) _ _ l0 h0 _ y1 h1 _ h2)).mono λe W' ⟨he,bel⟩=>?_
 subst he
 exact⟨_,rfl,_,_,_,[],_,[],hW',trodAll_mk1 (shut_bool Tryz.underlying4 _),(trodAll_cons_mk (Below.trod lP Kr (of_decide_eq_true Kr) t0 bel lt0) (trodAll_cons_mk (Below.trod lP Kr (of_decide_eq_true Kr) t1 bel lt1) (trodAll_cons_mk (Below.trod lP Kr (of_decide_eq_true Kr) t2 bel lt2) trodAll_mk0))),rfl,bel.frame _,λh=>by cases h⟩
def GroupLives_holds:Rows.GroupLivesSaid:=
 OpenClaim.holds_of_wide 3 Tryz.f3 rfl rfl rfl rfl rfl rfl rfl ⟨rfl,rfl,rfl,rfl,rfl⟩ rfl rfl rfl rfl rfl Kr Tryz.func3 Kr
  (IY Kr) (by unfold Func.isWrapper;first|(rw[an (by decide+kernel)];kernel_rfl)|(rw[ac (by decide+kernel)];exact⟨rfl,rfl⟩))
  (λos started H enc _=>GroupLives_holds_lifted os started H enc)
#print axioms GroupLives_holds
end Go.Proofs.YtenfjpigffjgmaaGreat
