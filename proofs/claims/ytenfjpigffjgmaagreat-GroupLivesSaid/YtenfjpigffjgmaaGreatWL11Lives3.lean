/- Parts: T9q T11i. -/
import Derived.Test.YtenfjpigffjgmaaGreatWL11Lives2
set_option linter.defProp false
set_option linter.unusedSimpArgs false
set_option linter.unusedVariables false
namespace Go.Proofs.YtenfjpigffjgmaaGreat
open Go.RowKit
open Go.Proofs.Tryz
namespace V
set_option maxHeartbeats 4000000
variable{R:Hp}{D:DK}{x y:ND}{n k i A a b:Nat}{g:LG}{P:LG->Prop}{m:Msg}{T I t:Int}{L As M pre F:List Qj}{s:List UInt8}{l:List (List Qj)}{f:FuncId}{args xs:List Value}{w:World}{v:Value}{r:Rec}{E:Env}{cmd:Bs}{d:Option Tmp}{fs:Array Value}
def yq(D:DK):Prop:=D.down=false/\D.bound=false
def fK(h:yq D):D.step=(true,D):=by unfold DK.step;simp[h.1,h.2]
def AW(h:yq D)(s:Bs):(D.put s).1=0/\yq (D.put s).2/\(D.put s).2.b=D.b++s/\(D.put s).2.sure=(D.b++s).length:=by
 have e2:D.append s=(0,{D with b:=D.b++s}):=by unfold DK.append;rw[fK h];rfl
 have e3:D.put s=(0,{D with b:=D.b++s,sure:=(D.b++s).length}):=by
  unfold DK.put;rw[e2];simp only[H7];unfold DK.sync;rw[fK (D:={D with b:=D.b++s}) h];rfl
 rw[e3];exact⟨rfl,h,rfl,rfl⟩
def nY(h:yq D)(s:Bs):(D.swap s).1=0/\yq (D.swap s).2/\(D.swap s).2.b=s/\(D.swap s).2.sure=s.length:=by
 unfold DK.swap;rw[fK h];exact⟨rfl,h,rfl,rfl⟩
def E4(hg:g.down=false)(h:yq D){i:Int}{m:List Qy}(hi:g.base<=i/\i<=g.last):(g.addD D i m).1=0/\(g.addD D i m).2.1=g.play (.add i m)/\(g.addD D i m).2.2=(D.put (Rec.add i m).bytes).2:=by
 have hp:=AW h (Rec.add i m).bytes;unfold LG.addD;rw[ac (by simp[hg,h.1]),ac Om,an hp.1];exact⟨rfl,rfl,rfl⟩
def DL(hg:g.down=false)(h:yq D){v:Int}(ht:g.term<=t)(hv: -1<=v):(g.setTermD D t v).1=0/\(g.setTermD D t v).2.1={g with term:=t,vote:=v}/\(g.setTermD D t v).2.2=(D.put (Rec.term t v).bytes).2:=by
 have hp:=AW h (Rec.term t v).bytes;unfold LG.setTermD;rw[ac (by simp[hg,h.1]),ac Om,an hp.1];exact⟨rfl,rfl,rfl⟩
def CG(hg:g.down=false)(h:yq D){i:Int}{s:Bs}(hi:g.base<i):(g.instD D i t s).1=0/\(g.instD D i t s).2.1=g.inst i t s/\∃to,(g.instD D i t s).2.2=(D.swap (Rec.all to).bytes).2/\to=g.inst i t s:=by
 unfold LG.instD LG.inst;rw[ac (by simp[hg,h.1]),ac Om];by_cases h1:g.termAt i=some t
 .have h2:i<=g.last:=by
   unfold LG.termAt at h1;rw[ac Om]at h1;unfold LG.at at h1;split at h1;.rename_i h3;exact h3.2
   cases h1
  rw[an h1,an h1];unfold LG.compD;rw[ac (by simp[hg,h.1]),ac Om];unfold LG.swapD;rw[an (nY h _).1];exact⟨rfl,rfl,_,rfl,rfl⟩
 rw[ac h1,ac h1];unfold LG.swapD;rw[an (nY h _).1];exact⟨rfl,rfl,_,rfl,rfl⟩
def LD.mono2{m:Nat}(h:LD n g D)(hm:n<=m):LD m g D:=by
 let⟨h1,h2,h3,h4,h5,h6,h7⟩:=h;exact⟨h1,h2,h3,h4,h5,Om,h7⟩
def Hs(n:Nat)(r:Bool×NS)(y:ND):Prop:=r.1=true/\r.2.1=y/\LD n y.g r.2.2
def LD.h(h:LD n g D):yq D:=⟨h.1,h.2.1⟩
def oU(hk:k<=90)(hl:LD n x.g D)(hx:NIn k x){i:Int}{m:List Qy}(hi:x.g.base<=i/\i<=x.g.last)(hm:∀e∈m,(0<=e.1/\e.1<=2305843009213693952+k)/\e.2.length<=100)(hn:m.length<=20):
  Hs (n+3000) (QY (x,D) (x.g.addD D i m)) {x with g:=x.g.play (.add i m)}:=by
 have hgd:x.g.down=false:=hl.2.2.2.2.1;let⟨h1,h2,h3⟩:=E4 hgd hl.h (m:=m) hi;have hg2:=(hx.add (i:=i) hm hn).g Om;have hb:=hx.base;have hal:=hx.alln;have hle:x.g.last=x.g.base+x.g.all.length:=rfl;have hen:=d6 (λe he=>(hm e he).2);have hmb:∀e∈m,QQ e.1/\e.2.length<=1000000:=λe he=>by have:=hm e he;unfold QQ;omega
 have hln:=Rec.len_add (b:=i) Om hmb Om;let⟨p1,p2⟩:=LD.put hl (r:=.add i m) (k:=2900) ⟨hi,hmb,Om⟩ Om Om hg2;unfold QY;rw[an h1,h2,h3];let⟨q1,q2,q3,q4,q5,q6,q7⟩:=p2;exact⟨rfl,rfl,q1,q2,q3,q4,q5,Hn q6 Om,q7⟩
def iO(hk:k<=90)(hl:LD n x.g D)(hx:NIn k x){v:Int}(ht:x.g.term<=t/\t<=2305843009213693952+(k+1))(hv: -1<=v/\v<9):
  Hs (n+3000) (QY (x,D) (x.g.setTermD D t v)) {x with g:={x.g with term:=t,vote:=v}}:=by
 have hgd:x.g.down=false:=hl.2.2.2.2.1;let⟨h1,h2,h3⟩:=DL hgd hl.h ht.1 hv.1;have hterm:=hx.term;have hg2:=(hx.set (t:=t) (vt:=v) Om hv).g Om;have hln:=Rec.len_term (t:=t) (v:=v) (by unfold QQ;omega) Om;let⟨p1,p2⟩:=LD.put hl (r:=.term t v) (k:=2900) ⟨by unfold QQ;omega,hv.1,Om⟩ Om Om hg2;unfold QY;rw[an h1,h2,h3];let⟨q1,q2,q3,q4,q5,q6,q7⟩:=p2;exact⟨rfl,rfl,q1,q2,q3,q4,q5,Hn q6 Om,q7⟩
def Hs.bind{m:Nat}{r:Bool×NS}{z:ND}{f:NS->Bool×NS}(h:Hs n r y)(hf:∀D,LD n y.g D->Hs m (f (y,D)) z):Hs m (Xo r f) z:=by
 let⟨h1,h2,h3⟩:=h;unfold Xo;rw[an h1,show r.2=(y,r.2.2)from by rw[<-h2]];exact hf _ h3
def ND.entryP(x:ND)(cmd:Bs):ND:=(ND.count {x with g:=x.g.play (.add x.g.last [(x.g.term,cmd)])}).feedAll
def ND.winP(x:ND):ND:=x.wins.entryP []
def ND.standP(x:ND):ND:=if x.n=1 then(ND.stands {x with g:={x.g with term:=x.g.term+1,vote:=x.id}}).winP else(ND.stands {x with g:={x.g with term:=x.g.term+1,vote:=x.id}}).askAll
def ND.tickP(x:ND):ND:=
 if x.role=2 then if x.patience+1>=3 then ND.feedAll {x with patience:=0}else{x with patience:=x.patience+1}
 else if x.patience+1>=YA x.id x.g.term then ND.standP {x with patience:=x.patience+1}else{x with patience:=x.patience+1}
def ND.askedP(x:ND)(m:Msg):ND:=if x.grants m=true then ND.send {x with g:={x.g with term:=x.g.term,vote:=m.frm},patience:=0} (ND.voteMsg m true)else x.send (ND.voteMsg m false)
def ND.votedP(x:ND)(m:Msg):ND:=
 if¬x.role=1\/¬m.term=x.g.term\/m.ok=false then x
 else if 2*((QS x.votes m.frm).length:Int)>x.n then ND.winP {x with votes:=QS x.votes m.frm}else{x with votes:=QS x.votes m.frm}
def ND.restP(x:ND)(m:Msg)(c:Int×List Qy):ND:=match ND.fits x.g c.2 (c.1+1)with
 |none=>(x.commits m (c.1+c.2.length)).answer m true (c.1+c.2.length)
 |some (i,l)=>if i<=x.commit then x else(ND.commits {x with g:=x.g.play (.add (i-1) l)} m (c.1+c.2.length)).answer m true (c.1+c.2.length)
def ND.addP(x:ND)(m:Msg):ND:=
 if m.index<x.g.base/\(m.es.length:Int)<x.g.base-m.index then x.answer m true x.g.base
 else if¬m.index<x.g.base/\¬x.g.termAt m.index=some m.logTerm then x.answer m false (min x.g.last (max m.index 1-1))
 else x.restP m (x.cutM m)
def ND.snapP(x:ND)(m:Msg):ND:=if m.index>x.commit then ND.answer {x with g:=x.g.inst m.index m.logTerm m.state,commit:=m.index} m true m.index else x.answer m true x.commit
def ND.fedP(x:ND)(m:Msg):ND:=if m.term<x.g.term then x.answer m false 0 else if x.role=2 then x else if m.kind=2 then(x.follows m).addP m else(x.follows m).snapP m
def ND.heardP(x:ND)(m:Msg):ND:=(Ya (x,DK.new) m).2.1
def ND.kindP(x:ND)(m:Msg):ND:=if m.kind=0 then x.askedP m else if m.kind=1 then x.votedP m else if m.kind=2\/m.kind=4 then x.fedP m else if m.kind=3 then x.heardP m else x
def ND.receiveP(x:ND)(m:Msg):ND:=
 if¬m.to=x.id\/m.frm=x.id\/m.frm<0\/m.frm>=x.n then x
 else if m.term>x.g.term then(ND.newTerm {x with g:={x.g with term:=m.term,vote:= -1}}).kindP m else x.kindP m
def Hs.ret{m:Nat}(h:LD n g D)(hg:y.g=g)(hm:n<=m):Hs m (true,(y,D)) y:=⟨rfl,rfl,by rw[hg];exact LD.mono2 h hm⟩
def ZW(x:ND):x.feedAll.g=x.g:=by rw[Xe];rfl
def fp(x:ND):x.askAll.g=x.g:=by unfold ND.askAll;rw[yM];rfl
def ym(x:ND):x.count.g=x.g:=(YU x).2.1
def sS(hk:k<=90)(hl:LD n x.g D)(hx:NIn k x)(hc:cmd.length<=100):Hs (n+3000) (Xb (x,D) cmd) (x.entryP cmd):=by
 have ht:=hx.term;have hle:x.g.last=x.g.base+x.g.all.length:=rfl;exact Hs.bind (oU (i:=x.g.last) (m:=[(x.g.term,cmd)]) hk hl hx ⟨Om,Gk _⟩ (λe he=>by simp at he;subst he;exact⟨⟨Om,Om⟩,hc⟩) Si) (λD' h=>Hs.ret h (by rw[ZW,ym]) (Gl _))
def AM(hk:k<=90)(hl:LD n x.g D)(hx:NIn k x):Hs (n+3000) (qM (x,D)) x.winP:=
 sS (x:=x.wins) hk hl (NIn.wins Om hx) Si
def BR(hk:k<=80)(hl:LD n x.g D)(hx:NIn k x):Hs (n+6000) (YF (x,D)) x.standP:=by
 have ht:=hx.term;have hid:=hx.idn;refine Hs.bind (iO Om hl hx (t:=x.g.term+1) (v:=x.id) Om Om) (λD' h=>?_);have h1:=(hx.set (t:=x.g.term+1) (vt:=x.id) Om Om).stands;unfold ND.standP;dsimp only;by_cases hn:x.n=1;.rw[an hn,an hn];exact AM (k:=k+1) Om h h1
 rw[ac hn,ac hn];exact Hs.ret h (fp _) Om
def Dy(hk:k<=70)(hl:LD n x.g D)(hx:NIn k x):Hs (n+6000) (tickN (x,D)) x.tickP:=by
 have hp:=hx.patience;unfold tickN ND.tickP;dsimp only;by_cases h1:x.role=2
 .rw[an h1,an h1];by_cases h2:x.patience+1>=3;.rw[an h2,an h2];exact Hs.ret hl (ZW _) Om
  rw[ac h2,ac h2];exact Hs.ret hl rfl Om
 rw[ac h1,ac h1];by_cases h2:x.patience+1>=YA x.id x.g.term;.rw[an h2,an h2];exact BR (k:=k+1) (x:={x with patience:=x.patience+1}) Om hl ((hx.le (show k<=k+1 by omega)).pat Om)
 rw[ac h2,ac h2];exact Hs.ret hl rfl Om
def Db(hk:k<=70)(hl:LD n x.g D)(hx:NIn k x)(hm:MIn k x.n m):Hs (n+3000) (ZY (x,D) m) (x.askedP m):=by
 have hf:=hm.frm;have hid:=hx.idn;have ht:=hx.term;unfold ZY ND.askedP;dsimp only;by_cases h1:x.grants m=true;.rw[an h1,an h1];exact Hs.bind (iO Om hl hx (t:=x.g.term) (v:=m.frm) Om Om) (λD' h=>Hs.ret h rfl (Gl _))
 rw[ac h1,ac h1];exact Hs.ret hl rfl Om
def Bx(hk:k<=70)(hl:LD n x.g D)(hx:NIn k x)(hm:MIn k x.n m):Hs (n+3000) (YE (x,D) m) (x.votedP m):=by
 unfold YE ND.votedP;dsimp only;by_cases h1:¬x.role=1\/¬m.term=x.g.term\/m.ok=false;.rw[an h1,an h1];exact Hs.ret hl rfl Om
 rw[ac h1,ac h1];by_cases h2:2*((QS x.votes m.frm).length:Int)>x.n;.rw[an h2,an h2];exact AM (k:=k) (x:={x with votes:=QS x.votes m.frm}) Om hl (hx.vote1 hm.frm)
 rw[ac h2,ac h2];exact Hs.ret hl rfl Om
def dX{g:LG}:∀{l:List Qy} {i j:Int} {l2:List Qy},ND.fits g l i=some (j,l2)->i<=j/\(∃c:Nat,l2=l.drop c/\j=i+c)/\(j=i\/(∃e,g.at (j-1)=some e))
 |[],i,j,l2,h=>by cases h
 |e::l,i,j,l2,h=>by
  by_cases h1:(g.at i).map (·.1)=some e.1
  .rw[zf h1]at h;let⟨a,⟨c,hc1,hc2⟩,d⟩:=dX h;refine⟨by omega,⟨c+1,by simpa using hc1,by omega⟩,.inr ?_⟩;rcases d with d|d
   .subst d;cases h2:g.at i with
    |none=>rw[h2]at h1;cases h1
    |some e2=>exact⟨e2,by rw[show i+1-1=i by omega];exact h2⟩
   exact d
  rw[zq h1]at h;cases h;exact⟨Gk _,⟨0,by simp,by omega⟩,.inl rfl⟩
def bF{i:Int}{e:Qy}(h:g.at i=some e):g.base<i/\i<=g.last:=by
 unfold LG.at at h;split at h;.assumption
 cases h
def yG{i:Int}(h:g.termAt i=some t):g.base<=i/\i<=g.last:=by
 unfold LG.termAt at h;split at h;.rename_i h1;unfold LG.last;omega
 cases h2:g.at i with
 |none=>rw[h2]at h;cases h
 |some e=>have:=bF h2;omega
def DX(hk:k<=70)(hl:LD n x.g D)(hx:NIn k x)(hm:MIn k x.n m)(hc:x.g.base<=(x.cutM m).1/\(x.cutM m).1<=x.g.last):Hs (n+3000) (ae x D m (x.cutM m)) (x.restP m (x.cutM m)):=by
 let⟨hb1,hb2,hb3⟩:=pU hx hm;unfold ae ND.restP;cases hfi:ND.fits x.g (x.cutM m).2 ((x.cutM m).1+1)with
 |none=>exact Hs.ret hl rfl Om
 |some p=>
  let⟨i,l⟩:=p;let⟨a1,⟨c,hc1,hc2⟩,a3⟩:=dX hfi;dsimp only;by_cases h1:i<=x.commit;.rw[an h1,an h1];exact Hs.ret hl rfl Om
  rw[ac h1,ac h1];have hi:x.g.base<=i-1/\i-1<=x.g.last:=by
   rcases a3 with a3|⟨e,a3⟩;.omega
   have:=bF a3;omega
  exact Hs.bind (oU (i:=i-1) (m:=l) Om hl hx hi (λe he=>hb3 e (by rw[hc1]at he;exact Hx he)) (by rw[hc1];simp;omega)) (λD' h=>Hs.ret h rfl (Gl _))
def FR(hk:k<=70)(hl:LD n x.g D)(hx:NIn k x)(hm:MIn k x.n m):Hs (n+3000) (qJ (x,D) m) (x.addP m):=by
 unfold ND.addP;by_cases h1:m.index<x.g.base/\(m.es.length:Int)<x.g.base-m.index;.unfold qJ;rw[an h1,an h1];exact Hs.ret hl rfl Om
 by_cases h2:¬m.index<x.g.base/\¬x.g.termAt m.index=some m.logTerm;.unfold qJ;rw[ac h1,ac h1,an h2,an h2];exact Hs.ret hl rfl Om
 rw[hH h1 h2,ac h1,ac h2];refine DX hk hl hx hm ?_;unfold ND.cutM;by_cases h3:m.index<x.g.base;.rw[an h3];unfold LG.last;dsimp only;omega
 rw[ac h3];have h4:x.g.termAt m.index=some m.logTerm:=by
  by_cases h4:x.g.termAt m.index=some m.logTerm;.exact h4
  exact Gr ⟨h3,h4⟩ h2
 exact yG h4
def LD.swap{n:Nat}{g to:LG}{D:DK}(h:LD n g D)(ht:to.ok)(hd:to.down=false)(hw:(wr (Rec.all to).nd).length<=16777216)(hn:17000000<=n):LD n to (D.swap (Rec.all to).bytes).2:=by
 let⟨h1,h2,h3,h4,h5,h6,rs,h7,h8⟩:=h;have e:D.swap (Rec.all to).bytes=(0,{D with b:=(Rec.all to).bytes,sure:=(Rec.all to).bytes.length}):=by
  unfold DK.swap;rw[fK ⟨h1,h2⟩];rfl
 rw[e];have hp:LG.new.play (.all to)=to:=by
  show{to with down:=false}=to;cases to;simp at hd;subst hd;rfl
 refine⟨h1,h2,rfl,h4,hd,?_,[Rec.all to],by simp[Xr],.cons LG.new_ok ht hw ?_⟩;.show(Rec.all to).bytes.length<=n;unfold Rec.bytes;rw[Gm,Zh];omega
 rw[hp];exact .nil _ ht
def eW(hk:k<=90)(hx:NIn k x):(wr (Rec.all x.g).nd).length<=16777216:=by
 have h1:=Rec.len_all (hx.g Om);have h2:=d6 (λe he=>(hx.all e he).2);have h3:=hx.alln;have h4:=hx.state;omega
def DJ(hn:17000000<=n)(hk:k<=70)(hl:LD n x.g D)(hx:NIn k x)(hm:MIn k x.n m)(hb:x.g.base<=x.commit):Hs (n+3000) (ad (x,D) m) (x.snapP m):=by
 unfold ad ND.snapP;dsimp only;by_cases h1:m.index>x.commit
 .rw[an h1,an h1];have hgd:x.g.down=false:=hl.2.2.2.2.1;let⟨a1,a2,to,a3,a4⟩:=CG hgd hl.h (i:=m.index) (t:=m.logTerm) (s:=m.state) Om;have hy:=hx.inst hm.index hm.logTerm hm.state;have hto:to.ok:=by rw[a4];exact hy.g Om
  have htd:to.down=false:=by rw[a4];unfold LG.inst;split<;>exact hgd
  have hL:=LD.swap hl hto htd (by rw[a4];exact eW (x:={x with g:=x.g.inst m.index m.logTerm m.state}) Om hy) hn;refine Hs.bind (y:={x with g:=x.g.inst m.index m.logTerm m.state}) (n:=n) ?_ (λD' h=>Hs.ret h rfl Om);unfold QY;rw[an a1,a2,a3];exact⟨rfl,rfl,by rw[<-a4];exact hL⟩
 rw[ac h1,ac h1];exact Hs.ret hl rfl Om
def FG(hn:17000000<=n)(hk:k<=70)(hl:LD n x.g D)(hx:NIn k x)(hm:MIn k x.n m)(hb:x.g.base<=x.commit):Hs (n+3000) (ZG (x,D) m) (x.fedP m):=by
 unfold ZG ND.fedP;dsimp only;by_cases h1:m.term<x.g.term;.rw[an h1,an h1];exact Hs.ret hl rfl Om
 rw[ac h1,ac h1];by_cases h2:x.role=2;.rw[an h2,an h2];exact Hs.ret hl rfl Om
 rw[ac h2,ac h2];by_cases h3:m.kind=2;.rw[an h3,an h3];exact FR (x:=x.follows m) hk hl (hx.follows m) hm
 rw[ac h3,ac h3];exact DJ (x:=x.follows m) hn hk hl (hx.follows m) hm hb
def CM(hl:LD n x.g D):Hs n (Ya (x,D) m) (x.heardP m):=by
 unfold ND.heardP Ya;dsimp only;by_cases h1:¬x.role=2\/¬m.term=x.g.term;.rw[an h1,an h1];exact⟨rfl,rfl,hl⟩
 rw[ac h1,ac h1];by_cases h2:m.ok=false;.rw[an h2,an h2];exact⟨rfl,rfl,hl⟩
 rw[ac h2,ac h2];split;.exact⟨rfl,rfl,by show LD n (ND.count _).g _;rw[ym];exact hl⟩
 exact⟨rfl,rfl,by show LD n (ND.count _).g _;rw[ym];exact hl⟩
def wA(hn:17000000<=n)(hk:k<=70)(hl:LD n x.g D)(hx:NIn k x)(hm:MIn k x.n m)(hb:x.g.base<=x.commit):Hs (n+3000) (YB (x,D) m) (x.kindP m):=by
 unfold YB ND.kindP;by_cases h0:m.kind=0;.rw[an h0,an h0];exact Db hk hl hx hm
 rw[ac h0,ac h0];by_cases h1:m.kind=1;.rw[an h1,an h1];exact Bx hk hl hx hm
 rw[ac h1,ac h1];by_cases h2:m.kind=2\/m.kind=4;.rw[an h2,an h2];exact FG hn hk hl hx hm hb
 rw[ac h2,ac h2];by_cases h3:m.kind=3;.rw[an h3,an h3];let⟨a,b,c⟩:=CM (m:=m) hl;exact⟨a,b,LD.mono2 c Om⟩
 rw[ac h3,ac h3];exact Hs.ret hl rfl Om
def vU(hn:17000000<=n)(hk:k<=60)(hl:LD n x.g D)(hx:NIn k x)(hm:MIm k m)(hb:x.g.base<=x.commit):Hs (n+6000) (Xz (x,D) m) (x.receiveP m):=by
 unfold Xz ND.receiveP;dsimp only;have hmt:=hm.term;by_cases h1:¬m.to=x.id\/m.frm=x.id\/m.frm<0\/m.frm>=x.n;.rw[an h1,an h1];exact Hs.ret hl rfl Om
 rw[ac h1,ac h1];have hf:0<=m.frm/\m.frm<x.n:=Om;by_cases h2:m.term>x.g.term;.rw[an h2,an h2];exact Hs.bind (iO Om hl hx (t:=m.term) (v:= -1) Om Om) (λD' h=>wA (k:=k+1) (n:=n+3000) (x:=ND.newTerm {x with g:={x.g with term:=m.term,vote:= -1}}) Om Om h ((hx.set (t:=m.term) (vt:= -1) Om Om).newTerm) (hm.to hf Om) hb)
 rw[ac h2,ac h2];let⟨a,b,c⟩:=wA (m:=m) hn Om hl hx (hm.to hf (Gl _)) hb;exact⟨a,b,LD.mono2 c Om⟩
structure LIn (T I:Int) (A:Nat) (x:ND):Prop where
 idn:x.id<x.n/\x.n<=9
 down:x.down=false
 term:0<=x.g.term/\x.g.term<=T
 vote: -1<=x.g.vote/\x.g.vote<9
 base:0<=x.g.base
 baseT:0<=x.g.baseT/\x.g.baseT<=T
 last:x.g.last<=I
 state:x.g.state.length<=1000000
 alln:x.g.all.length<=A
 all:∀e∈x.g.all,(0<=e.1/\e.1<=T)/\e.2.length<=100
 commit:x.g.base<=x.commit/\x.commit<=x.g.last
 patience:0<=x.patience/\x.patience<=30
 peers:x.role=2->x.peers.length=x.n
 peer:∀p∈x.peers,(1<=p.1/\p.1<=I+1)/\(0<=p.2/\p.2<=I)
 pl:x.role=2->∀p∈x.peers,p.2<=x.g.last
 votes:x.votes.Nodup/\∀i∈x.votes,0<=i/\i<(x.n:Int)
def LIn.mono{T' I':Int}{A':Nat}(h:LIn T I A x)(hT:T<=T')(hI:I<=I')(hA:A<=A'):LIn T' I' A' x:=
 ⟨h.idn,h.down,⟨h.term.1,Hg h.term.2 hT⟩,h.vote,h.base,⟨h.baseT.1,Hg h.baseT.2 hT⟩,Hg h.last hI,h.state,Hn h.alln hA,λe he=>⟨⟨(h.all e he).1.1,Hg (h.all e he).1.2 hT⟩,(h.all e he).2⟩,h.commit,h.patience,h.peers,λp hp=>⟨⟨(h.peer p hp).1.1,by have:=(h.peer p hp).1.2;omega⟩,⟨(h.peer p hp).2.1,Hg (h.peer p hp).2.2 hI⟩⟩,h.pl,h.votes⟩
def LIn.nin(h:LIn T I A x)(k:Nat)(hT:T<=2305843009213693952)(hI:I<=100000000000000)(hA:A<=80000)(ho:x.out.length<=20*k):NIn k x:=
 ⟨h.idn,⟨h.term.1,by have:=h.term.2;omega⟩,h.vote,⟨h.base,by have:=h.last;have:=h.commit;omega⟩,⟨h.baseT.1,by have:=h.baseT.2;omega⟩,h.state,by have:=h.alln;omega,λe he=>⟨⟨(h.all e he).1.1,by have:=(h.all e he).1.2;omega⟩,(h.all e he).2⟩,by have:=h.base;have:=h.last;have:=h.commit;omega,by have:=h.patience;omega,h.peers,λp hp=>by have:=h.peer p hp;omega,h.votes,ho⟩
structure TR (x y:ND):Prop where
 id:y.id=x.id
 n:y.n=x.n
 com:x.commit<=y.commit
 base:x.g.base<=y.g.base
 at_:∀i,y.g.base<i->i<=x.commit->y.g.at i=x.g.at i
 vr:x.g.term<y.g.term\/(x.g.term=y.g.term/\(x.g.vote= -1\/x.g.vote=y.g.vote))
def TR.same(hg:y.g=x.g)(h1:y.id=x.id)(h2:y.n=x.n)(h3:x.commit<=y.commit):TR x y:=
 ⟨h1,h2,h3,by rw[hg];exact Gk _,λi _ _=>by rw[hg],.inr ⟨by rw[hg],.inr (by rw[hg])⟩⟩
def TR.rfl:TR x x:=TR.same (HE _) (HE _) (HE _) (Gk _)
def TR.trans{x y z:ND}(h:TR x y)(k:TR y z):TR x z:=
 ⟨k.id.trans h.id,k.n.trans h.n,Hg h.com k.com,Hg h.base k.base,λi hi hc=>by
  have h1:=k.base;have h2:=h.com;rw[k.at_ i hi Om,h.at_ i Om hc],by
  have h1:=h.vr;have h2:=k.vr;omega⟩
structure LT (T I:Int) (A:Nat) (x y:ND):Prop where
 inn:LIn T I A y
 tr:TR x y
def LT.rfl{T I:Int}{A:Nat}{x:ND}(h:LIn T I A x):LT T I A x x:=⟨h,TR.rfl⟩
def LT.trans{T I T' I':Int}{A A':Nat}{x y z:ND}(h:LT T I A x y)(k:LT T' I' A' y z):LT T' I' A' x z:=⟨k.inn,h.tr.trans k.tr⟩
def LT.mono{T T' I I':Int}{A A':Nat}{x y:ND}(h:LT T I A x y)(hT:T<=T')(hI:I<=I')(hA:A<=A'):LT T' I' A' x y:=⟨h.inn.mono hT hI hA,h.tr⟩
def LIn.sends(h:LIn T I A x)(l:List Msg):LIn T I A {x with out:=l}:=
 ⟨h.idn,h.down,h.term,h.vote,h.base,h.baseT,h.last,h.state,h.alln,h.all,h.commit,h.patience,h.peers,h.peer,h.pl,h.votes⟩
def LT.sent(h:LT T I A x y)(l:List Msg):LT T I A x {y with out:=l}:=
 ⟨h.inn.sends l,h.tr.trans (TR.same (HE _) (HE _) (HE _) (Gk _))⟩
def ao{i:Int}{m:List Qy}(hi:g.base<=i/\i<=g.last):(g.play (.add i m)).last=i+m.length:=by
 unfold LG.play LG.last at*;simp;omega
def dg{i:Int}(h:g.base<i/\i<=g.last):g.at i=g.all[(i-g.base-1).toNat]?:=by unfold LG.at;rw[an h]
def cH{i:Int}(h:¬(g.base<i/\i<=g.last)):g.at i=none:=by unfold LG.at;rw[ac h]
def gQ{i j:Int}{m:List Qy}(hi:g.base<=i/\i<=g.last)(hj:j<=i):(g.play (.add i m)).at j=g.at j:=by
 have h1:=ao (m:=m) hi;have hb:(g.play (.add i m)).base=g.base:=rfl;by_cases h2:g.base<j;.rw[dg (g:=g) Om,dg Om,hb];show(g.all.take (i-g.base).toNat++m)[_]?=_;unfold LG.last at hi;rw[GG (by simp;omega),I3 Om]
 rw[cH (g:=g) Om,cH Om]
def LIn.add{T I:Int}{A:Nat}{x:ND}(h:LIn T I A x){i:Int}{m:List Qy}(hi:x.commit<=i/\i<=x.g.last)(hr:x.role=2->i=x.g.last)(hm:∀e∈m,(0<=e.1/\e.1<=T)/\e.2.length<=100):LT T (I+m.length) (A+m.length) x {x with g:=x.g.play (.add i m)}:=by
 have hc:=h.commit;have hI:=h.last;have hA:=h.alln;have hl:=ao (g:=x.g) (i:=i) (m:=m) Om;refine⟨⟨h.idn,h.down,h.term,h.vote,h.base,h.baseT,by show(x.g.play (.add i m)).last<=_;rw[hl];omega,h.state,?_,?_,⟨hc.1,by show _<=(x.g.play (.add i m)).last;rw[hl];show x.commit<=_;omega⟩,h.patience,h.peers,λp hp=>by have:=h.peer p hp;omega,λhr2 p hp=>?_,h.votes⟩,?_⟩;.show(x.g.all.take _++m).length<=_;simp;omega
 .intro e he;rcases GE.1 (show e∈x.g.all.take _++m from he)with he|he
  .exact h.all e (I1 he)
  exact hm e he
 .show _<=(x.g.play (.add i m)).last;have h1:=h.pl hr2 p hp;have h2:=hr hr2;rw[hl];omega
 exact⟨HE _,HE _,Gk _,Gk _,λj _ hj=>gQ Om Om,.inr ⟨HE _,.inr (HE _)⟩⟩
def LIn.set(h:LIn T I A x){v:Int}(ht:0<=t/\t<=T)(hv: -1<=v/\v<9)(hvr:x.g.term<t\/(x.g.term=t/\(x.g.vote= -1\/x.g.vote=v))):LT T I A x {x with g:={x.g with term:=t,vote:=v}}:=
 ⟨⟨h.idn,h.down,ht,hv,h.base,h.baseT,h.last,h.state,h.alln,h.all,h.commit,h.patience,h.peers,h.peer,h.pl,h.votes⟩,⟨HE _,HE _,Gk _,Gk _,λ_ _ _=>HE _,hvr⟩⟩
def oX(hid:x.id<x.n)(h:∀p∈x.peers,p.2<=x.g.last)(h0:0<=x.g.last):x.mid<=x.g.last:=by
 have hm:=dQ hid;unfold ND.reach at hm;rcases Gn.1 hm with hm|hm
 .omega
 let⟨i,_,hi⟩:=Gu.1 hm;rw[<-hi];unfold ND.mat;by_cases h1:i<x.peers.length;.exact h _ (by rw[Gt,b7 h1];simp)
 rw[Gt,Ho Om];exact h0
def LIn.count{T I:Int}{A:Nat}{x:ND}(h:LIn T I A x)(hr:x.role=2):LT T I A x x.count:=by
 have h0:=h.base;have hc:=h.commit;have hm:=oX h.idn.1 (h.pl hr) Om;unfold ND.count;split;.rename_i h1;exact⟨⟨h.idn,h.down,h.term,h.vote,h.base,h.baseT,h.last,h.state,h.alln,h.all,⟨by show x.g.base<=x.mid;omega,hm⟩,h.patience,h.peers,h.peer,h.pl,h.votes⟩,TR.same (HE _) (HE _) (HE _) (by show x.commit<=x.mid;omega)⟩
 exact LT.rfl h
def LIn.entryP{T I:Int}{A:Nat}{x:ND}{cmd:Bs}(h:LIn T I A x)(hr:x.role=2)(hc:cmd.length<=100):LT T (I+1) (A+1) x (x.entryP cmd):=by
 have h1:=h.add (i:=x.g.last) (m:=[(x.g.term,cmd)]) ⟨h.commit.2,Gk _⟩ (λ_=>HE _) (λe he=>by simp at he;subst he;exact⟨h.term,hc⟩);have h2:=h1.trans (LIn.count h1.inn hr);unfold ND.entryP;rw[Xe];exact h2.sent _
def LIn.wins{T I:Int}{A:Nat}{x:ND}(h:LIn T I A x):LIn T I A x.wins:=by
 have h0:=h.base;have hc:=h.commit;have hl:=h.last;refine⟨h.idn,h.down,h.term,h.vote,h.base,h.baseT,h.last,h.state,h.alln,h.all,h.commit,⟨by show(0:Int)<=0;omega,by show(0:Int)<=30;omega⟩,λ_=>by simp[ND.wins],?_,?_,h.votes⟩;.intro p hp;obtain⟨_,rfl⟩:=M3.1 (show p∈List.replicate x.n (x.g.last+1,0)from hp);dsimp only;omega
 intro _ p hp;obtain⟨_,rfl⟩:=M3.1 (show p∈List.replicate x.n (x.g.last+1,0)from hp);show 0<=x.g.last;omega
def LIn.winP(h:LIn T I A x):LT T (I+1) (A+1) x x.winP:=by
 have h1:=LIn.entryP (cmd:=[]) h.wins (HE _) Si;exact⟨h1.inn,TR.trans (TR.same (y:=x.wins) (HE _) (HE _) (HE _) (Gk _)) h1.tr⟩
def LIn.stands{T I:Int}{A:Nat}{x:ND}(h:LIn T I A x):LIn T I A x.stands:=by
 have hid:=h.idn;refine⟨h.idn,h.down,h.term,h.vote,h.base,h.baseT,h.last,h.state,h.alln,h.all,h.commit,⟨by show(0:Int)<=0;omega,by show(0:Int)<=30;omega⟩,λhr=>Gr (show(1:Int)=2 from hr) Dc,h.peer,λhr=>Gr (show(1:Int)=2 from hr) Dc,by simp[ND.stands],λi hi=>?_⟩;have:i=(x.id:Int):=by simpa[ND.stands]using hi
 show 0<=i/\i<(x.n:Int);omega
def LIn.standP{T I:Int}{A:Nat}{x:ND}(h:LIn T I A x):LT (T+1) (I+1) (A+1) x x.standP:=by
 have hid:=h.idn;have ht:=h.term;have h1:=(h.mono (show T<=T+1 by omega) (Gk _) (Gl _)).set (t:=x.g.term+1) (v:=x.id) Om Om (.inl Om);have h2:=h1.inn.stands;have h3:TR x (ND.stands {x with g:={x.g with term:=x.g.term+1,vote:=x.id}}):=h1.tr.trans (TR.same (HE _) (HE _) (HE _) (Gk _));unfold ND.standP;by_cases hn:x.n=1;.rw[an hn];have h4:=LIn.winP h2;exact⟨h4.inn,h3.trans h4.tr⟩
 rw[ac hn];unfold ND.askAll;rw[yM];exact LT.mono (LT.sent ⟨h2,h3⟩ _) (Gk _) Om Om
def LIn.pat(h:LIn T I A x){p:Int}(hp:0<=p/\p<=30):LT T I A x {x with patience:=p}:=
 ⟨⟨h.idn,h.down,h.term,h.vote,h.base,h.baseT,h.last,h.state,h.alln,h.all,h.commit,hp,h.peers,h.peer,h.pl,h.votes⟩,TR.same (HE _) (HE _) (HE _) (Gk _)⟩
def yL(i:Nat)(t:Int):10<=YA i t/\YA i t<=20:=by
 unfold YA;omega
def LIn.tickP{T I:Int}{A:Nat}{x:ND}(h:LIn T I A x):LT (T+1) (I+1) (A+1) x x.tickP:=by
 have hp:=h.patience;have hlm:=yL x.id x.g.term;unfold ND.tickP;by_cases h1:x.role=2
 .rw[an h1];by_cases h2:x.patience+1>=3;.rw[an h2,Xe];exact LT.mono ((h.pat Om).sent _) Om Om Om
  rw[ac h2];exact LT.mono (h.pat Om) Om Om Om
 rw[ac h1];by_cases h2:x.patience+1>=YA x.id x.g.term;.rw[an h2];have h3:=h.pat (p:=0) Om;have h4:=LIn.standP h3.inn;have e:ND.standP {x with patience:=x.patience+1}=ND.standP {x with patience:=0}:=HE _;rw[e];exact h3.trans h4
 rw[ac h2];exact LT.mono (h.pat Om) Om Om Om
structure MLn (T I:Int) (m:Msg):Prop where
 term:0<=m.term/\m.term<=T
 index:0<=m.index/\m.index<=I
 logTerm:0<=m.logTerm/\m.logTerm<=T
 commit:0<=m.commit
 es:m.es.length<=20/\∀e∈m.es,(0<=e.1/\e.1<=T)/\e.2.length<=100
 state:m.state.length<=1000000
def LIn.askedP{T I:Int}{A:Nat}{x:ND}{m:Msg}(h:LIn T I A x)(hm:0<=m.frm/\m.frm<x.n):LT T I A x (x.askedP m):=by
 have hid:=h.idn;unfold ND.askedP;by_cases h1:x.grants m=true;.rw[an h1];have h1':=h1;unfold ND.grants at h1';simp[G6,HZ,HR]at h1';let⟨⟨⟨_,_⟩,hv⟩,_⟩:=h1';have h2:=h.set (t:=x.g.term) (v:=m.frm) h.term Om (.inr ⟨HE _,hv⟩);have h3:=h2.trans (h2.inn.pat (p:=0) Om);exact h3.sent _
 rw[ac h1];exact(LT.rfl h).sent _
def LIn.vote1(h:LIn T I A x){i:Int}(hi:0<=i/\i<(x.n:Int)):LIn T I A {x with votes:=QS x.votes i}:=
 ⟨h.idn,h.down,h.term,h.vote,h.base,h.baseT,h.last,h.state,h.alln,h.all,h.commit,h.patience,h.peers,h.peer,h.pl,mo h.votes.1 i,λj hj=>by rcases eE hj with hj|hj;exact h.votes.2 j hj;subst hj;exact hi⟩
def LIn.votedP{T I:Int}{A:Nat}{x:ND}{m:Msg}(h:LIn T I A x)(hm:0<=m.frm/\m.frm<x.n):LT T (I+1) (A+1) x (x.votedP m):=by
 unfold ND.votedP;have h1:LT T I A x {x with votes:=QS x.votes m.frm}:=⟨h.vote1 hm,TR.same (HE _) (HE _) (HE _) (Gk _)⟩;split;.exact LT.mono (LT.rfl h) Om Om Om
 split;.have h2:=LIn.winP h1.inn;exact h1.trans h2
 exact LT.mono h1 Om Om Om
def LIn.commits(h:LT T I A x y)(m:Msg){last:Int}(hl:last<=y.g.last):LT T I A x (y.commits m last):=by
 have hc:=h.inn.commit;refine⟨⟨h.inn.idn,h.inn.down,h.inn.term,h.inn.vote,h.inn.base,h.inn.baseT,h.inn.last,h.inn.state,h.inn.alln,h.inn.all,⟨?_,?_⟩,h.inn.patience,h.inn.peers,h.inn.peer,h.inn.pl,h.inn.votes⟩,h.tr.trans (TR.same (HE _) (HE _) (HE _) ?_)⟩;.show y.g.base<=max y.commit (min m.commit last);omega
 .show max y.commit (min m.commit last)<=y.g.last;omega
 show y.commit<=max y.commit (min m.commit last);omega
def gy{g:LG}:∀{l:List Qy} {i:Int},ND.fits g l i=none->l=[]\/i+l.length-1<=g.last
 |[],_,_=>.inl (HE _)
 |e::l,i,h=>by
  by_cases h1:(g.at i).map (·.1)=some e.1
  .rw[zf h1]at h;right;cases h2:g.at i with
   |none=>rw[h2]at h1;cases h1
   |some e2=>
    have h3:=bF h2;rcases gy h with h4|h4
    .subst h4;simp;omega
    simp;omega
  rw[zq h1]at h;cases h
def LIn.restP{T I:Int}{A:Nat}{x:ND}{m:Msg}(h:LIn T I A x)(hr:¬x.role=2)(hm:MLn T I m)(hc:x.g.base<=(x.cutM m).1/\(x.cutM m).1<=x.g.last):LT T (I+20) (A+20) x (x.restP m (x.cutM m)):=by
 have hb3:(x.cutM m).2.length<=20/\∀e∈(x.cutM m).2,(0<=e.1/\e.1<=T)/\e.2.length<=100:=by
  have:=hm.es;unfold ND.cutM;split;.exact⟨by simp;omega,λe he=>this.2 e (Hx he)⟩
  exact this
 unfold ND.restP;cases hfi:ND.fits x.g (x.cutM m).2 ((x.cutM m).1+1)with
 |none=>
  have hl:(x.cutM m).1+(x.cutM m).2.length<=x.g.last:=by
   rcases gy hfi with h1|h1;.rw[h1];simp;omega
   omega
  exact LT.mono ((LIn.commits (LT.rfl h) m hl).sent _) Om Om Om
 |some p=>
  let⟨i,l⟩:=p;let⟨a1,⟨c,hc1,hc2⟩,a3⟩:=dX hfi;dsimp only;by_cases h1:i<=x.commit;.rw[an h1];exact LT.mono (LT.rfl h) Om Om Om
  rw[ac h1];have hi:x.commit<=i-1/\i-1<=x.g.last:=by
   rcases a3 with a3|⟨e,a3⟩;.omega
   have:=bF a3;omega
  have hll:l.length<=20:=by rw[hc1];simp;omega
  have h2:=h.add (i:=i-1) (m:=l) hi (λhr2=>Gr hr2 hr) (λe he=>hb3.2 e (by rw[hc1]at he;exact Hx he));have hpl:=ao (g:=x.g) (i:=i-1) (m:=l) (by have:=h.commit;omega);have hle:(x.cutM m).1+(x.cutM m).2.length<=(x.g.play (.add (i-1) l)).last:=by
   rw[hpl,hc1];have hcl:c<(x.cutM m).2.length:=by
    by_cases hcl:c<(x.cutM m).2.length;.exact hcl
    have:l=[]:=by rw[hc1];exact Ix Om
    exfalso;have key:∀{l:List Qy} {i j:Int} {l2:List Qy},ND.fits x.g l i=some (j,l2)->l2≠[]:=by
     intro l;induction l with
     |nil=>intro i j l2 h;cases h
     |cons e l ih=>
      intro i j l2 h;by_cases h1:(x.g.at i).map (·.1)=some e.1;.rw[zf h1]at h;exact ih h
      rw[zq h1]at h;cases h;simp
    exact key hfi this
   simp;omega
  exact LT.mono ((LIn.commits h2 m (last:=(x.cutM m).1+(x.cutM m).2.length) hle).sent _) Om Om Om
def LIn.addP{T I:Int}{A:Nat}{x:ND}{m:Msg}(h:LIn T I A x)(hr:¬x.role=2)(hm:MLn T I m):LT T (I+20) (A+20) x (x.addP m):=by
 unfold ND.addP;by_cases h1:m.index<x.g.base/\(m.es.length:Int)<x.g.base-m.index;.rw[an h1];exact LT.mono ((LT.rfl h).sent _) Om Om Om
 by_cases h2:¬m.index<x.g.base/\¬x.g.termAt m.index=some m.logTerm;.rw[ac h1,an h2];exact LT.mono ((LT.rfl h).sent _) Om Om Om
 rw[ac h1,ac h2];refine h.restP hr hm ?_;unfold ND.cutM;by_cases h3:m.index<x.g.base;.rw[an h3];have:=h.commit;dsimp only;omega
 rw[ac h3];have h4:x.g.termAt m.index=some m.logTerm:=by
  by_cases h4:x.g.termAt m.index=some m.logTerm;.exact h4
  exact Gr ⟨h3,h4⟩ h2
 exact yG h4
def mK{i:Int}{s:Bs}(hi:g.base<=i):(g.inst i t s).base=i/\i<=(g.inst i t s).last/\(g.inst i t s).last<=max i g.last/\(g.inst i t s).all.length<=g.all.length/\(∀e∈(g.inst i t s).all,e∈g.all)/\(g.inst i t s).term=g.term/\(g.inst i t s).vote=g.vote/\(g.inst i t s).state=s:=by
 unfold LG.inst;split;.rename_i h;have h1:=yG h;unfold LG.comp LG.last at*;dsimp only;exact⟨rfl,Om,by simp;omega,Si,λe he=>Hx he,rfl,rfl,rfl⟩
 unfold LG.base0 LG.last;dsimp only;exact⟨rfl,Si,by simp;omega,Si,λe he=>by simp at he,rfl,rfl,rfl⟩
def uz{i:Int}{s:Bs}(h0:0<=T)(hb:0<=g.baseT/\g.baseT<=T)(ha:∀e∈g.all,(0<=e.1/\e.1<=T)/\e.2.length<=100)(ht:0<=t/\t<=T):0<=(g.inst i t s).baseT/\(g.inst i t s).baseT<=T:=by
 unfold LG.inst;split;.rename_i h;unfold LG.comp;dsimp only;rw[h];exact ht
 exact ht
def LIn.snapP{T I:Int}{A:Nat}{x:ND}{m:Msg}(h:LIn T I A x)(hr:¬x.role=2)(hm:MLn T I m):LT T I A x (x.snapP m):=by
 have hb:=h.base;have hcm:=h.commit;have hl:=h.last;have hal:=h.alln;have hix:=hm.index;have ht:=h.term;unfold ND.snapP;by_cases h1:m.index>x.commit;.rw[an h1];let⟨e1,e2,e3,e4,e5,e6,e7,e8⟩:=mK (g:=x.g) (i:=m.index) (t:=m.logTerm) (s:=m.state) Om;refine LT.sent (x:=x) (y:={x with g:=x.g.inst m.index m.logTerm m.state,commit:=m.index}) ⟨⟨h.idn,h.down,by rw[e6];exact h.term,by rw[e7];exact h.vote,by rw[e1];omega,uz Om h.baseT h.all hm.logTerm,by show(x.g.inst m.index m.logTerm m.state).last<=I;omega,by rw[e8];exact hm.state,Hn e4 h.alln,λe he=>h.all e (e5 e he),⟨by show(x.g.inst m.index m.logTerm m.state).base<=m.index;omega,e2⟩,h.patience,h.peers,h.peer,λhr2=>Gr hr2 hr,h.votes⟩,⟨HE _,HE _,by show x.commit<=m.index;omega,by rw[e1];omega,λi h2 h3=>by rw[e1]at h2;omega,.inr ⟨e6.symm,.inr e7.symm⟩⟩⟩ _
 rw[ac h1];exact(LT.rfl h).sent _
def LIn.follows(h:LIn T I A x):LT T I A x (x.follows m):=
 ⟨⟨h.idn,h.down,h.term,h.vote,h.base,h.baseT,h.last,h.state,h.alln,h.all,h.commit,⟨by show(0:Int)<=0;omega,by show(0:Int)<=30;omega⟩,λhr=>Gr (show(0:Int)=2 from hr) Dc,h.peer,λhr=>Gr (show(0:Int)=2 from hr) Dc,h.votes⟩,TR.same (HE _) (HE _) (HE _) (Gk _)⟩
def LIn.fedP{T I:Int}{A:Nat}{x:ND}{m:Msg}(h:LIn T I A x)(hm:MLn T I m):LT T (I+20) (A+20) x (x.fedP m):=by
 have hf:=LIn.follows (m:=m) h;have h0:¬(x.follows m).role=2:=λhr=>Gr (show(0:Int)=2 from hr) Dc;unfold ND.fedP;split;.exact LT.mono ((LT.rfl h).sent _) Om Om Om
 split;.exact LT.mono (LT.rfl h) Om Om Om
 split;.exact hf.trans (hf.inn.addP h0 hm)
 exact LT.mono (hf.trans (hf.inn.snapP h0 hm)) Om Om Om
def LIn.setPeer{T I:Int}{A:Nat}{x:ND}(h:LIn T I A x)(to:Nat){p:Int×Int}(hp:(1<=p.1/\p.1<=I+1)/\(0<=p.2/\p.2<=x.g.last)):LT T I A x (x.setPeer to p):=by
 have hl:=h.last;refine⟨⟨h.idn,h.down,h.term,h.vote,h.base,h.baseT,h.last,h.state,h.alln,h.all,h.commit,h.patience,λhr=>by have:=h.peers hr;unfold ND.setPeer;simpa using this,λq hq=>?_,λhr q hq=>?_,h.votes⟩,TR.same (HE _) (HE _) (HE _) (Gk _)⟩
 .rcases IW (show q∈x.peers.set to p from hq)with hq|rfl;.exact h.peer q hq
  omega
 rcases IW (show q∈x.peers.set to p from hq)with hq|rfl;.exact h.pl hr q hq
 exact hp.2.2
def LIn.peerb(h:LIn T I A x)(hr:x.role=2)(i:Nat):(0<=x.nxt i/\x.nxt i<=I+1)/\(0<=x.mat i/\x.mat i<=x.g.last):=by
 have h0:=h.base;have hc:=h.commit;have hl:=h.last;unfold ND.nxt ND.mat;by_cases h1:i<x.peers.length
 .have hm:x.peers.getD i (0,0)∈x.peers:=by rw[Gt,b7 h1];simp
  have h2:=h.peer _ hm;have h3:=h.pl hr _ hm;omega
 rw[Gt,Ho Om];simp;omega
def LIn.heardP{T I:Int}{A:Nat}{x:ND}{m:Msg}(h:LIn T I A x)(hm:MLn T I m):LT T I A x (x.heardP m):=by
 have hix:=hm.index;have h0:=h.base;have hcm:=h.commit;have hl:=h.last;unfold ND.heardP Ya;dsimp only;by_cases h1:¬x.role=2\/¬m.term=x.g.term;.rw[an h1];exact LT.rfl h
 have hr:x.role=2:=by
  by_cases hr:x.role=2;.exact hr
  exact Gr (.inl hr) h1
 have hp:=h.peerb hr m.frm.toNat;rw[ac h1];by_cases h2:m.ok=false;.rw[an h2];exact(h.setPeer m.frm.toNat (p:=(max (min (x.nxt m.frm.toNat-1) (m.index+1)) (x.mat m.frm.toNat+1),x.mat m.frm.toNat)) Do).sent _
 rw[ac h2];have h3:=h.setPeer m.frm.toNat (p:=(max (x.mat m.frm.toNat) (min m.index x.g.last)+1,max (x.mat m.frm.toNat) (min m.index x.g.last))) Do;have h4:=h3.trans (LIn.count h3.inn hr);split;.exact h4.sent _
 exact h4
def LIn.kindP{T I:Int}{A:Nat}{x:ND}{m:Msg}(h:LIn T I A x)(hm:MLn T I m)(hf:0<=m.frm/\m.frm<x.n):LT T (I+20) (A+20) x (x.kindP m):=by
 unfold ND.kindP;split;.exact LT.mono (h.askedP hf) Om Om Om
 split;.exact LT.mono (h.votedP hf) Om Om Om
 split;.exact h.fedP hm
 split;.exact LT.mono (h.heardP hm) Om Om Om
 exact LT.mono (LT.rfl h) Om Om Om
def LIn.newTerm(h:LIn T I A x):LIn T I A x.newTerm:=
 ⟨h.idn,h.down,h.term,h.vote,h.base,h.baseT,h.last,h.state,h.alln,h.all,h.commit,h.patience,λhr=>Gr (show(0:Int)=2 from hr) Dc,h.peer,λhr=>Gr (show(0:Int)=2 from hr) Dc,h.votes⟩
def LIn.receiveP{T I:Int}{A:Nat}{x:ND}{m:Msg}(h:LIn T I A x)(hm:MLn T I m):LT T (I+20) (A+20) x (x.receiveP m):=by
 have ht:=h.term;unfold ND.receiveP;by_cases h1:¬m.to=x.id\/m.frm=x.id\/m.frm<0\/m.frm>=x.n;.rw[an h1];exact LT.mono (LT.rfl h) Om Om Om
 rw[ac h1];have hf:0<=m.frm/\m.frm<x.n:=Om;by_cases h2:m.term>x.g.term;.rw[an h2];have h3:=h.set (t:=m.term) (v:= -1) hm.term Om (.inl Om);have h4:LT T I A x (ND.newTerm {x with g:={x.g with term:=m.term,vote:= -1}}):=⟨h3.inn.newTerm,h3.tr.trans (TR.same (HE _) (HE _) (HE _) (Gk _))⟩;exact h4.trans (h4.inn.kindP hm hf)
 rw[ac h2];exact h.kindP hm hf
def C1{i j:Int}{s:Bs}(hi:g.base<=i/\i<=g.last)(hj:i<j):(g.comp i s).at j=g.at j:=by
 have hl:(g.comp i s).last=g.last:=by unfold LG.comp LG.last at*;simp;omega
 have hb:(g.comp i s).base=i:=rfl;by_cases h1:j<=g.last;.rw[dg (g:=g) Om,dg Om,hb];show(g.all.drop (i-g.base).toNat)[_]?=_;rw[HF];congr 1;omega
 rw[cH (g:=g) Om,cH Om]
def LIn.comp{T I:Int}{A:Nat}{x:ND}(h:LIn T I A x){i:Int}{s:Bs}(hi:x.g.base<=i/\i<=x.commit)(hs:s.length<=1000000):LT T I A x {x with g:=x.g.comp i s}:=by
 have hb:=h.base;have hc:=h.commit;have hl:(x.g.comp i s).last=x.g.last:=by unfold LG.comp LG.last at*;simp;omega
 have ht:=h.term;refine⟨⟨h.idn,h.down,h.term,h.vote,by show 0<=i;omega,?_,by rw[hl];exact h.last,hs,by have:=h.alln;show(x.g.all.drop _).length<=A;simp;omega,λe he=>h.all e (Hx he),⟨by show i<=x.commit;omega,by rw[hl];exact h.commit.2⟩,h.patience,h.peers,h.peer,λhr p hp=>by rw[hl];exact h.pl hr p hp,h.votes⟩,⟨HE _,HE _,Gk _,by show x.g.base<=i;omega,λj hj hjc=>C1 Om hj,.inr ⟨HE _,.inr (HE _)⟩⟩⟩;show 0<=(x.g.termAt i).getD 0/\(x.g.termAt i).getD 0<=T;unfold LG.termAt;split;.exact h.baseT
 cases h1:x.g.at i with
 |none=>simp;omega
 |some e=>exact(h.all e (LG.at_mem h1)).1
def LIn.start{id n:Nat}{g:LG}{T I:Int}{A:Nat}(hid:id<n/\n<=9)(hT:0<=g.term/\g.term<=T)(hv: -1<=g.vote/\g.vote<9)(hb:0<=g.base)(hbT:0<=g.baseT/\g.baseT<=T)(hl:g.last<=I)(hs:g.state.length<=1000000)(hA:g.all.length<=A)(ha:∀e∈g.all,(0<=e.1/\e.1<=T)/\e.2.length<=100):LIn T I A (ND.start id n g):=
 ⟨hid,rfl,hT,hv,hb,hbT,hl,hs,hA,ha,⟨Gk _,by show g.base<=g.last;unfold LG.last;omega⟩,by show(0:Int)<=0/\(0:Int)<=30;omega,λhr=>Gr (show(0:Int)=2 from hr) Dc,λp hp=>by simp[ND.start]at hp,λhr=>Gr (show(0:Int)=2 from hr) Dc,by simp[ND.start],λi hi=>by simp[ND.start]at hi⟩
def SD(n:Nat)(g:LG)(D:DK):Prop:=D.down=false/\D.sure=D.b.length/\(-9223372036854775808<=D.fuel/\D.fuel<=9223372036854775807/\(D.bound=true->0<=D.fuel))/\g.down=false/\D.b.length<=n/\∃rs,D.b=Xr rs/\Plays LG.new rs g
def SD.okD(h:SD n g D):D.ok n:=by
 let⟨h1,h2,h3,h4,h5,_⟩:=h;exact⟨Om,h5,h3⟩
def SD.mono{m:Nat}(h:SD n g D)(hm:n<=m):SD m g D:=by
 let⟨h1,h2,h3,h4,h5,h6⟩:=h;exact⟨h1,h2,h3,h4,Om,h6⟩
def SD.new:SD 0 LG.new DK.new:=⟨rfl,rfl,Dc,rfl,Gl _,[],rfl,.nil _ LG.new_ok⟩
def FD(n:Nat)(P:LG->Prop)(D:DK):Prop:=D.ok n/\D.down=true/\∀keep:Int,∃rs p g,(D.crash keep).b=Xr rs++p/\yr p/\Plays LG.new rs g/\g.down=false/\P g
def FD.imp{m:Nat}{Q:LG->Prop}(h:FD n P D)(hm:n<=m)(hP:∀g,P g->Q g):FD m Q D:=by
 let⟨⟨a1,a2,a3⟩,h2,h3⟩:=h;refine⟨⟨a1,Om,a3⟩,h2,λkeep=>?_⟩;let⟨rs,p,g,b1,b2,b3,b4,b5⟩:=h3 keep;exact⟨rs,p,g,b1,b2,b3,b4,hP g b5⟩
def n'(hd:D.down=false)(hf: -9223372036854775808<=D.fuel/\D.fuel<=9223372036854775807/\(D.bound=true->0<=D.fuel)):
  (D.step.1=true/\∃f,D.step.2={D with fuel:=f}/\(-9223372036854775808<=f/\f<=9223372036854775807/\(D.bound=true->0<=f)))\/(D.step.1=false/\D.step.2={D with down:=true}):=by
 unfold DK.step;rw[ac (by simp[hd])];by_cases hb:D.bound=true
 .rw[an hb];have h0:=hf.2.2 hb;by_cases h1:D.fuel=0;.rw[an h1];exact .inr ⟨rfl,rfl⟩
  rw[ac h1];exact .inl ⟨rfl,_,rfl,Om,Om,λ_=>Om⟩
 rw[ac hb];exact .inl ⟨rfl,D.fuel,rfl,hf⟩
def m6(h:D.sure=D.b.length)(keep:Int):(D.crash keep).b=D.b:=by
 unfold DK.crash DK.keeps;dsimp only;exact Gx Om
def SD.fd(h:SD n g D)(hP:P g):FD n P {D with down:=true}:=by
 have hk:=h.okD;let⟨h1,h2,h3,h4,h5,rs,h6,h7⟩:=h;refine⟨hk,rfl,λkeep=>⟨rs,[],g,?_,eu,h7,h4,hP⟩⟩;rw[m6 (D:={D with down:=true}) h2];simpa using h6
def AV(h:SD n g D)(hm:r.may g)(hl:(wr r.nd).length<=k)(hk:k<=16777216)(ho:(g.play r).ok)(hP0:P g)(hP1:P (g.play r)):
  ((D.put r.bytes).1=0/\SD (n+4+k) (g.play r) (D.put r.bytes).2)\/(¬(D.put r.bytes).1=0/\FD (n+4+k) P (D.put r.bytes).2):=by
 have h':=h;let⟨h1,h2,h3,h4,h5,rs,h6,h7⟩:=h;have hbl:r.bytes.length<=4+k:=by unfold Rec.bytes;rw[Gm,Zh];omega
 rcases n' h1 h3 with⟨e1,f,e2,hf⟩|⟨e1,e2⟩
 .unfold DK.put DK.append;rw[an e1];simp[H7];rw[e2];unfold DK.sync;rcases n' (D:={{D with fuel:=f}with b:=D.b++r.bytes}) h1 hf with⟨e3,f2,e4,hf2⟩|⟨e3,e4⟩
  .rw[an e3,e4];refine .inl ⟨rfl,h1,rfl,hf2,by rw[cW];exact h4,?_,rs++[r],by rw[eH,<-h6],h7.snoc hm Om ho⟩;show(D.b++r.bytes).length<=_;rw[Gm];omega
  rw[ac (by simp[e3]),e4];refine .inr ⟨(by show¬(3:Int)=0;decide),⟨?_,?_,hf⟩,rfl,λkeep=>?_⟩;.show D.sure<=(D.b++r.bytes).length;rw[Gm];omega
  .show(D.b++r.bytes).length<=_;rw[Gm];omega
  have ec:(DK.crash {{{D with fuel:=f}with b:=D.b++r.bytes}with down:=true} keep).b=D.b++r.bytes.take (min keep.toNat r.bytes.length):=by
   unfold DK.crash DK.keeps;dsimp only;rw[h2,show(D.b++r.bytes).length-D.b.length=r.bytes.length by simp,List.take_length_add_append]
  have ec2:=ec;by_cases hc:min keep.toNat r.bytes.length<r.bytes.length;.exact⟨rs,_,g,by rw[<-h6];exact ec,xp Om hc,h7,h4,hP0⟩
  refine⟨rs++[r],[],g.play r,?_,eu,h7.snoc hm Om ho,by rw[cW];exact h4,hP1⟩;rw[eH,<-h6,HY];rw[Gx Om]at ec2;exact ec2
 have ea:D.append r.bytes=(3,{D with down:=true}):=by unfold DK.append;rw[ac (by simp[e1]),e2]
 have ep:D.put r.bytes=(3,{D with down:=true}):=by unfold DK.put;rw[ea];rfl
 rw[ep];exact .inr ⟨(by show¬(3:Int)=0;decide),(h'.fd hP0).imp Om (λ_ h=>h)⟩
def nX{to:LG}(h:SD n g D)(ht:to.ok)(htd:to.down=false)(hw:(wr (Rec.all to).nd).length<=16777216)(hn:17000000<=n)(hP0:P g):
  ((D.swap (Rec.all to).bytes).1=0/\SD n to (D.swap (Rec.all to).bytes).2)\/(¬(D.swap (Rec.all to).bytes).1=0/\FD n P (D.swap (Rec.all to).bytes).2):=by
 have h':=h;let⟨h1,h2,h3,h4,h5,rs,h6,h7⟩:=h;unfold DK.swap;rcases n' h1 h3 with⟨e1,f,e2,hf⟩|⟨e1,e2⟩
 .rw[an e1,e2];have hp:LG.new.play (.all to)=to:=by
   show{to with down:=false}=to;cases to;simp at htd;subst htd;rfl
  refine .inl ⟨rfl,h1,rfl,hf,htd,?_,[Rec.all to],by simp[Xr],.cons LG.new_ok ht hw ?_⟩;.show(Rec.all to).bytes.length<=n;unfold Rec.bytes;rw[Gm,Zh];omega
  rw[hp];exact .nil _ ht
 rw[ac (by simp[e1]),e2];exact .inr ⟨(by show¬(3:Int)=0;decide),h'.fd hP0⟩
def D9(hk:D.ok n)(h:∀keep:Int,∃rs p g,(D.crash keep).b=Xr rs++p/\yr p/\Plays LG.new rs g/\g.down=false/\P g)(keep:Int):
  ∃rs p g,(D.crash keep).ok n/\(D.crash keep).b=Xr rs++p/\yr p/\Plays LG.new rs g/\P g/\((D.crash keep).open rs p).1=0/\SD n g ((D.crash keep).open rs p).2:=by
 let⟨rs,p,g,h1,h2,h3,h4,h5⟩:=h keep;let⟨k1,k2,k3,k4,k5⟩:=hk;have hkl:D.keeps keep<=D.b.length:=by unfold DK.keeps;omega
 have hbl:(D.crash keep).b.length=D.keeps keep:=by unfold DK.crash;simp;omega
 have hcd:(D.crash keep).down=false:=rfl;have hcb:(D.crash keep).bound=false:=rfl;have hcf:(D.crash keep).fuel=D.fuel:=rfl;have hcs:(D.crash keep).sure=D.keeps keep:=rfl;have hok:(D.crash keep).ok n:=⟨by rw[hcs,hbl];exact Gl _,by rw[hbl];omega,by rw[hcf];exact k3,by rw[hcf];exact k4,λh=>by rw[hcb]at h;cases h⟩;refine⟨rs,p,g,hok,h1,h2,h3,h5,?_⟩;unfold DK.open;rw[ac (by simp[hcd])];by_cases hp:p=[];.rw[an hp];exact⟨rfl,hcd,by rw[hcs,hbl],⟨by rw[hcf];exact k3,by rw[hcf];exact k4,λh=>by rw[hcb]at h;cases h⟩,h4,by rw[hbl];omega,rs,by rw[h1,hp];simp,h3⟩
 rw[ac hp];have hs:(D.crash keep).step=(true,D.crash keep):=by unfold DK.step;rw[ac (by rw[hcd];decide),ac (by rw[hcb];decide)]
 unfold DK.swap;rw[hs,an rfl];refine⟨rfl,hcd,rfl,⟨by show _<=(D.crash keep).fuel;rw[hcf];exact k3,by show(D.crash keep).fuel<=_;rw[hcf];exact k4,λh=>by rw[show({(D.crash keep)with b:=Xr rs,sure:=(Xr rs).length}:DK).bound=false from hcb]at h;cases h⟩,h4,?_,rs,rfl,h3⟩;show(Xr rs).length<=n;have:(D.crash keep).b.length=(Xr rs).length+p.length:=by rw[h1,Gm]
 omega
def SD.crash_any(h:SD n g D)(hP:P g):∀keep:Int,∃rs p g,(D.crash keep).b=Xr rs++p/\yr p/\Plays LG.new rs g/\g.down=false/\P g:=λkeep=>by
 let⟨h1,h2,h3,h4,h5,rs,h6,h7⟩:=h;exact⟨rs,[],g,by rw[m6 h2,h6];simp,eu,h7,h4,hP⟩
def Fx(n:Nat)(P:LG->Prop)(r:Bool×NS)(y:ND):Prop:=(r.1=true/\r.2.1=y/\SD n y.g r.2.2)\/(r.1=false/\r.2.1.down=true/\FD n P r.2.2)
def Fx.bind{m:Nat}{r:Bool×NS}{z:ND}{f:NS->Bool×NS}(h:Fx n P r y)(hm:n<=m)(hf:∀D,SD n y.g D->Fx m P (f (y,D)) z):Fx m P (Xo r f) z:=by
 unfold Xo;rcases h with⟨h1,h2,h3⟩|⟨h1,h2,h3⟩
 .rw[an h1,show r.2=(y,r.2.2)from by rw[<-h2]];exact hf _ h3
 rw[ac (by simp[h1])];exact .inr ⟨h1,h2,h3.imp hm (λ_ h=>h)⟩
def Fx.ret{m:Nat}(h:SD n g D)(hg:y.g=g)(hm:n<=m):Fx m P (true,(y,D)) y:=.inl ⟨rfl,rfl,by rw[hg];exact h.mono hm⟩
def Fx.mono{n m:Nat}{P:LG->Prop}{r:Bool×NS}{y:ND}(h:Fx n P r y)(hm:n<=m):Fx m P r y:=by
 rcases h with⟨h1,h2,h3⟩|⟨h1,h2,h3⟩;.exact .inl ⟨h1,h2,h3.mono hm⟩
 exact .inr ⟨h1,h2,h3.imp hm (λ_ h=>h)⟩
def kv(hk:k<=90)(hl:SD n x.g D)(hx:NIn k x){i:Int}{m:List Qy}(hi:x.g.base<=i/\i<=x.g.last)(hm:∀e∈m,(0<=e.1/\e.1<=2305843009213693952+k)/\e.2.length<=100)(hn:m.length<=20)(hP0:P x.g)(hP1:P (x.g.play (.add i m))):
  Fx (n+3000) P (QY (x,D) (x.g.addD D i m)) {x with g:=x.g.play (.add i m)}:=by
 have hg2:=(hx.add (i:=i) hm hn).g Om;have hb:=hx.base;have hal:=hx.alln;have hle:x.g.last=x.g.base+x.g.all.length:=rfl;have hen:=d6 (λe he=>(hm e he).2);have hmb:∀e∈m,QQ e.1/\e.2.length<=1000000:=λe he=>by have:=hm e he;unfold QQ;omega
 have hln:=Rec.len_add (b:=i) Om hmb Om;have hgd:¬(x.g.down||D.down)=true:=by simp[hl.1,hl.2.2.2.1]
 unfold LG.addD;rw[ac hgd,ac Om];rcases AV hl (r:=.add i m) (k:=2900) ⟨hi,hmb,Om⟩ Om Om hg2 hP0 hP1 with⟨p1,p2⟩|⟨p1,p2⟩
 .rw[an p1];unfold QY;rw[an rfl];exact .inl ⟨rfl,rfl,p2.mono Om⟩
 rw[ac p1];unfold QY;rw[ac p1];exact .inr ⟨rfl,rfl,p2.imp Om (λ_ h=>h)⟩
def jC(hk:k<=90)(hl:SD n x.g D)(hx:NIn k x){v:Int}(ht:x.g.term<=t/\t<=2305843009213693952+(k+1))(hv: -1<=v/\v<9)(hP0:P x.g)(hP1:P {x.g with term:=t,vote:=v}):
  Fx (n+3000) P (QY (x,D) (x.g.setTermD D t v)) {x with g:={x.g with term:=t,vote:=v}}:=by
 have hterm:=hx.term;have hg2:=(hx.set (t:=t) (vt:=v) Om hv).g Om;have hln:=Rec.len_term (t:=t) (v:=v) (by unfold QQ;omega) Om;have hgd:¬(x.g.down||D.down)=true:=by simp[hl.1,hl.2.2.2.1]
 unfold LG.setTermD;rw[ac hgd,ac Om];rcases AV hl (r:=.term t v) (k:=2900) ⟨by unfold QQ;omega,hv.1,Om⟩ Om Om hg2 hP0 hP1 with⟨p1,p2⟩|⟨p1,p2⟩
 .rw[an p1];unfold QY;rw[an rfl];exact .inl ⟨rfl,rfl,p2.mono Om⟩
 rw[ac p1];unfold QY;rw[ac p1];exact .inr ⟨rfl,rfl,p2.imp Om (λ_ h=>h)⟩
def rC{to:LG}(hl:SD n x.g D)(ht:to.ok)(htd:to.down=false)(hw:(wr (Rec.all to).nd).length<=16777216)(hn:17000000<=n)(hP0:P x.g):Fx n P (QY (x,D) (x.g.swapD D to)) {x with g:=to}:=by
 unfold LG.swapD;rcases nX hl ht htd hw hn hP0 with⟨p1,p2⟩|⟨p1,p2⟩
 .rw[an p1];unfold QY;rw[an rfl];exact .inl ⟨rfl,rfl,p2⟩
 rw[ac p1];unfold QY;rw[ac p1];exact .inr ⟨rfl,rfl,p2⟩
def rD(hk:k<=90)(hl:SD n x.g D){i:Int}{s:Bs}(hi:x.g.base<i)(hy:NIn k {x with g:=x.g.inst i t s})(hn:17000000<=n)(hP0:P x.g):Fx n P (QY (x,D) (x.g.instD D i t s)) {x with g:=x.g.inst i t s}:=by
 have hgd:¬(x.g.down||D.down)=true:=by simp[hl.1,hl.2.2.2.1]
 have hok:=hy.g Om;have hd:(x.g.inst i t s).down=false:=by unfold LG.inst;split<;>exact hl.2.2.2.1
 have hw:=eW (x:={x with g:=x.g.inst i t s}) hk hy;have e:x.g.instD D i t s=x.g.swapD D (x.g.inst i t s):=by
  unfold LG.instD LG.inst;rw[ac hgd,ac Om];by_cases h1:x.g.termAt i=some t;.have h2:=yG h1;rw[an h1,an h1];unfold LG.compD;rw[ac hgd,ac Om]
  rw[ac h1,ac h1]
 rw[e];exact rC hl hok hd hw hn hP0
def lW(hk:k<=90)(hl:SD n x.g D)(hx:NIn k x)(hc:cmd.length<=100)(hP0:P x.g)(hP1:P (x.entryP cmd).g):Fx (n+3000) P (Xb (x,D) cmd) (x.entryP cmd):=by
 have ht:=hx.term;have hle:x.g.last=x.g.base+x.g.all.length:=rfl;have hP2:P (x.g.play (.add x.g.last [(x.g.term,cmd)])):=by
  have:(x.entryP cmd).g=x.g.play (.add x.g.last [(x.g.term,cmd)]):=by unfold ND.entryP;rw[ZW,ym]
  rw[this]at hP1;exact hP1
 exact Fx.bind (kv (i:=x.g.last) (m:=[(x.g.term,cmd)]) hk hl hx ⟨Om,Gk _⟩ (λe he=>by simp at he;subst he;exact⟨⟨Om,Om⟩,hc⟩) Si hP0 hP2) (Gl _) (λD' h=>Fx.ret h (by rw[ZW,ym]) (Gl _))
def tD(hk:k<=90)(hl:SD n x.g D)(hx:NIn k x)(hP0:P x.g)(hP1:P x.winP.g):Fx (n+3000) P (qM (x,D)) x.winP:=
 lW (x:=x.wins) hk hl (NIn.wins Om hx) Si hP0 hP1
def BP(hk:k<=80)(hl:SD n x.g D)(hx:NIn k x)(hP0:P x.g)(hP1:P {x.g with term:=x.g.term+1,vote:=x.id})(hP2:P x.standP.g):Fx (n+6000) P (YF (x,D)) x.standP:=by
 have ht:=hx.term;have hid:=hx.idn;refine Fx.bind (jC Om hl hx (t:=x.g.term+1) (v:=x.id) Om Om hP0 hP1) Om (λD' h=>?_);have h1:=(hx.set (t:=x.g.term+1) (vt:=x.id) Om Om).stands;unfold ND.standP at hP2|-;dsimp only;by_cases hn:x.n=1;.rw[an hn]at hP2;rw[an hn,an hn];exact tD (k:=k+1) Om h h1 hP1 hP2
 rw[ac hn,ac hn];exact Fx.ret h (fp _) Om
def Dv(hk:k<=70)(hl:SD n x.g D)(hx:NIn k x)(hP0:P x.g)(hP1:P {x.g with term:=x.g.term+1,vote:=x.id})(hP2:P x.tickP.g):Fx (n+6000) P (tickN (x,D)) x.tickP:=by
 have hp:=hx.patience;unfold ND.tickP at hP2;unfold tickN ND.tickP;dsimp only;by_cases h1:x.role=2
 .rw[an h1,an h1];by_cases h2:x.patience+1>=3;.rw[an h2,an h2];exact Fx.ret hl (ZW _) Om
  rw[ac h2,ac h2];exact Fx.ret hl rfl Om
 rw[ac h1]at hP2;rw[ac h1,ac h1];by_cases h2:x.patience+1>=YA x.id x.g.term;.rw[an h2]at hP2;rw[an h2,an h2];exact BP (k:=k+1) (x:={x with patience:=x.patience+1}) Om hl ((hx.le (show k<=k+1 by omega)).pat Om) hP0 hP1 hP2
 rw[ac h2,ac h2];exact Fx.ret hl rfl Om
def C'(hk:k<=70)(hl:SD n x.g D)(hx:NIn k x)(hm:MIn k x.n m)(hP0:P x.g)(hP1:P (x.askedP m).g):Fx (n+3000) P (ZY (x,D) m) (x.askedP m):=by
 have hf:=hm.frm;have hid:=hx.idn;have ht:=hx.term;unfold ND.askedP at hP1;unfold ZY ND.askedP;dsimp only;by_cases h1:x.grants m=true;.rw[an h1]at hP1;rw[an h1,an h1];exact Fx.bind (jC Om hl hx (t:=x.g.term) (v:=m.frm) Om Om hP0 hP1) (Gl _) (λD' h=>Fx.ret h rfl (Gl _))
 rw[ac h1,ac h1];exact Fx.ret hl rfl Om
def Bv(hk:k<=70)(hl:SD n x.g D)(hx:NIn k x)(hm:MIn k x.n m)(hP0:P x.g)(hP1:P (x.votedP m).g):Fx (n+3000) P (YE (x,D) m) (x.votedP m):=by
 unfold ND.votedP at hP1;unfold YE ND.votedP;dsimp only;by_cases h1:¬x.role=1\/¬m.term=x.g.term\/m.ok=false;.rw[an h1,an h1];exact Fx.ret hl rfl Om
 rw[ac h1]at hP1;rw[ac h1,ac h1];by_cases h2:2*((QS x.votes m.frm).length:Int)>x.n;.rw[an h2]at hP1;rw[an h2,an h2];exact tD (k:=k) (x:={x with votes:=QS x.votes m.frm}) Om hl (hx.vote1 hm.frm) hP0 hP1
 rw[ac h2,ac h2];exact Fx.ret hl rfl Om
def DW(hk:k<=70)(hl:SD n x.g D)(hx:NIn k x)(hm:MIn k x.n m)(hc:x.g.base<=(x.cutM m).1/\(x.cutM m).1<=x.g.last)(hP0:P x.g)(hP1:P (x.restP m (x.cutM m)).g):Fx (n+3000) P (ae x D m (x.cutM m)) (x.restP m (x.cutM m)):=by
 let⟨hb1,hb2,hb3⟩:=pU hx hm;unfold ND.restP at hP1;unfold ae ND.restP;cases hfi:ND.fits x.g (x.cutM m).2 ((x.cutM m).1+1)with
 |none=>exact Fx.ret hl rfl Om
 |some p=>
  let⟨i,l⟩:=p;let⟨a1,⟨c,hc1,hc2⟩,a3⟩:=dX hfi;rw[hfi]at hP1;dsimp only at hP1|-;by_cases h1:i<=x.commit;.rw[an h1,an h1];exact Fx.ret hl rfl Om
  rw[ac h1]at hP1;rw[ac h1,ac h1];have hi:x.g.base<=i-1/\i-1<=x.g.last:=by
   rcases a3 with a3|⟨e,a3⟩;.omega
   have:=bF a3;omega
  exact Fx.bind (kv (i:=i-1) (m:=l) Om hl hx hi (λe he=>hb3 e (by rw[hc1]at he;exact Hx he)) (by rw[hc1];simp;omega) hP0 hP1) (Gl _) (λD' h=>Fx.ret h rfl (Gl _))
def FP(hk:k<=70)(hl:SD n x.g D)(hx:NIn k x)(hm:MIn k x.n m)(hP0:P x.g)(hP1:P (x.addP m).g):Fx (n+3000) P (qJ (x,D) m) (x.addP m):=by
 unfold ND.addP at hP1;unfold ND.addP;by_cases h1:m.index<x.g.base/\(m.es.length:Int)<x.g.base-m.index;.unfold qJ;rw[an h1,an h1];exact Fx.ret hl rfl Om
 by_cases h2:¬m.index<x.g.base/\¬x.g.termAt m.index=some m.logTerm;.unfold qJ;rw[ac h1,ac h1,an h2,an h2];exact Fx.ret hl rfl Om
 rw[ac h1,ac h2]at hP1;rw[hH h1 h2,ac h1,ac h2];refine DW hk hl hx hm ?_ hP0 hP1;unfold ND.cutM;by_cases h3:m.index<x.g.base;.rw[an h3];unfold LG.last;dsimp only;omega
 rw[ac h3];have h4:x.g.termAt m.index=some m.logTerm:=by
  by_cases h4:x.g.termAt m.index=some m.logTerm;.exact h4
  exact Gr ⟨h3,h4⟩ h2
 exact yG h4
def DI(hn:17000000<=n)(hk:k<=70)(hl:SD n x.g D)(hx:NIn k x)(hm:MIn k x.n m)(hb:x.g.base<=x.commit)(hP0:P x.g):Fx (n+3000) P (ad (x,D) m) (x.snapP m):=by
 unfold ad ND.snapP;dsimp only;by_cases h1:m.index>x.commit;.rw[an h1,an h1];have hy:=hx.inst hm.index hm.logTerm hm.state;exact Fx.bind (rD (k:=k) Om hl (i:=m.index) (t:=m.logTerm) (s:=m.state) Om hy hn hP0) Om (λD' h=>Fx.ret h rfl Om)
 rw[ac h1,ac h1];exact Fx.ret hl rfl Om
def FF(hn:17000000<=n)(hk:k<=70)(hl:SD n x.g D)(hx:NIn k x)(hm:MIn k x.n m)(hb:x.g.base<=x.commit)(hP0:P x.g)(hP1:P (x.fedP m).g):Fx (n+3000) P (ZG (x,D) m) (x.fedP m):=by
 unfold ND.fedP at hP1;unfold ZG ND.fedP;dsimp only;by_cases h1:m.term<x.g.term;.rw[an h1,an h1];exact Fx.ret hl rfl Om
 rw[ac h1]at hP1;rw[ac h1,ac h1];by_cases h2:x.role=2;.rw[an h2,an h2];exact Fx.ret hl rfl Om
 rw[ac h2]at hP1;rw[ac h2,ac h2];by_cases h3:m.kind=2;.rw[an h3]at hP1;rw[an h3,an h3];exact FP (x:=x.follows m) hk hl (hx.follows m) hm hP0 hP1
 rw[ac h3,ac h3];exact DI (x:=x.follows m) hn hk hl (hx.follows m) hm hb hP0
def CK(hl:SD n x.g D):Fx n P (Ya (x,D) m) (x.heardP m):=by
 unfold ND.heardP Ya;dsimp only;by_cases h1:¬x.role=2\/¬m.term=x.g.term;.rw[an h1,an h1];exact .inl ⟨rfl,rfl,hl⟩
 rw[ac h1,ac h1];by_cases h2:m.ok=false;.rw[an h2,an h2];exact .inl ⟨rfl,rfl,hl⟩
 rw[ac h2,ac h2];split;.exact .inl ⟨rfl,rfl,by show SD n (ND.count _).g _;rw[ym];exact hl⟩
 exact .inl ⟨rfl,rfl,by show SD n (ND.count _).g _;rw[ym];exact hl⟩
def kC(hn:17000000<=n)(hk:k<=70)(hl:SD n x.g D)(hx:NIn k x)(hm:MIn k x.n m)(hb:x.g.base<=x.commit)(hP0:P x.g)(hP1:P (x.kindP m).g):Fx (n+3000) P (YB (x,D) m) (x.kindP m):=by
 unfold ND.kindP at hP1;unfold YB ND.kindP;by_cases h0:m.kind=0;.rw[an h0]at hP1;rw[an h0,an h0];exact C' hk hl hx hm hP0 hP1
 rw[ac h0]at hP1;rw[ac h0,ac h0];by_cases h1:m.kind=1;.rw[an h1]at hP1;rw[an h1,an h1];exact Bv hk hl hx hm hP0 hP1
 rw[ac h1]at hP1;rw[ac h1,ac h1];by_cases h2:m.kind=2\/m.kind=4;.rw[an h2]at hP1;rw[an h2,an h2];exact FF hn hk hl hx hm hb hP0 hP1
 rw[ac h2,ac h2];by_cases h3:m.kind=3;.rw[an h3,an h3];exact(CK hl).mono Om
 rw[ac h3,ac h3];exact Fx.ret hl rfl Om
def vS(hn:17000000<=n)(hk:k<=60)(hl:SD n x.g D)(hx:NIn k x)(hm:MIm k m)(hb:x.g.base<=x.commit)(hP0:P x.g)(hP1:m.term>x.g.term->P {x.g with term:=m.term,vote:= -1})(hP2:P (x.receiveP m).g):Fx (n+6000) P (Xz (x,D) m) (x.receiveP m):=by
 have hmt:=hm.term;unfold ND.receiveP at hP2;unfold Xz ND.receiveP;dsimp only;by_cases h1:¬m.to=x.id\/m.frm=x.id\/m.frm<0\/m.frm>=x.n;.rw[an h1,an h1];exact Fx.ret hl rfl Om
 rw[ac h1]at hP2;rw[ac h1,ac h1];have hf:0<=m.frm/\m.frm<x.n:=Om;by_cases h2:m.term>x.g.term;.rw[an h2]at hP2;rw[an h2,an h2];exact Fx.bind (jC Om hl hx (t:=m.term) (v:= -1) Om Om hP0 (hP1 h2)) Om (λD' h=>kC (k:=k+1) (n:=n+3000) (x:=ND.newTerm {x with g:={x.g with term:=m.term,vote:= -1}}) Om Om h ((hx.set (t:=m.term) (vt:= -1) Om Om).newTerm) (hm.to hf Om) hb (hP1 h2) hP2)
 rw[ac h2]at hP2;rw[ac h2,ac h2];exact(kC (m:=m) hn Om hl hx (hm.to hf (Gl _)) hb hP0 hP2).mono Om
set_option maxRecDepth 100000
def ND.q(x:ND):ND:={x with out:=[]}
def BB(T I:Int)(A:Nat):Prop:=T<=2305843009213693952/\I<=100000000000000/\A<=80000
def Zd(h:x.out=[]):x.q=x:=by
 unfold ND.q;cases x;simp at h;subst h;rfl
def LIn.q(h:LIn T I A x):LIn T I A x.q:=h.sends []
def LIn.nin0(h:LIn T I A x)(hB:BB T I A)(ho:x.out=[]):NIn 0 x:=h.nin 0 hB.1 hB.2.1 hB.2.2 (by rw[ho];exact He _)
def NOk.q{v:NV}(h:NOk R v x):NOk R {v with css:=[]} x.q:=⟨h.va,Els.nil,h.vm,h.vp,h.vo,h.map⟩
def sY(hd:x.down=false)(h:LD n x.g D):¬Xy (x,D)=true:=by
 let⟨h1,_,_,_,h5,_⟩:=h;unfold Xy;simp[hd,h1,h5]
def AT{m:Nat}{f:NS->Bool×NS}(hd:x.down=false)(hl:LD m x.g D)(ho:x.out=[])(h:Hs n (f (x,D)) y):(Xw (x,D) f).1=y.out/\(Xw (x,D) f).2.1=y/\LD n y.g (Xw (x,D) f).2.2:=by
 let⟨h1,h2,h3⟩:=h;rw[dJ];unfold zW;rw[ac (sY hd hl),show({x with out:=[]}:ND)=x from Zd ho,an h1];exact⟨by rw[h2],h2,h3⟩
def MLn.im(h:MLn T I m)(hT:T<=2305843009213693952)(hI:I<=100000000000000)(hc:m.commit<18446744073709551616):MIm 0 m:=
 ⟨by have:=h.term;omega,by have:=h.index;omega,by have:=h.logTerm;omega,⟨h.commit,hc⟩,⟨h.es.1,λe he=>by have:=h.es.2 e he;omega⟩,h.state⟩
abbrev Yf:=Int×Msg
variable{st:List Yf}
def lE(x:Yf)(ve:Value):List Value:=.int .u64 x.1::Xl x.2 ve
def oneE:Elt Yf where
 P:=λR x cs=>∃ve,cs=lE x ve/\FrX entE R x.2.es ve
 sz:=11
 mono:=λhR ⟨ve,h,k⟩=>⟨ve,h,k.mono hR⟩
 len:=λ⟨ve,h,k⟩=>by subst h;rfl
 one:=λ⟨ve,h,k⟩ u hu=>by
  subst h
  rcases Gn.1 hu with rfl|hu
  ·rfl
  ·exact msgE.one ⟨ve,rfl,k⟩ u hu
def xv{c:Cx}{tx e' e:TypeId}{sz m o j cap:Nat}{fz:Nat×Nat}{l news:List Value}(hk:c.P.underlying tx=some (.slice e'))(f:Find (jq b l e fz) L M)(hl:news.length=m*sz)(hc:∀(jj:Nat) u,news[jj]?=some u->l[o+j*sz+jj]?=some u)(h1:∀u∈news,u.oneCell'=true)
  (hcap:m=0\/cap≠j):fq c R L tx sz (.slice (Ze (some ⟨b,o,none⟩) j cap sz) m k) m news:=by
 by_cases h:cap=j
 .have h0:m=0:=hcap.resolve_right (by simp[h]);subst h0;have hn:news=[]:=by simpa using hl
  subst hn;intro w hs;unfold Ze;rw[an h];exact KC w hk ⟨b,o,none⟩ 0 k [] Si (λj u hj=>by simp at hj) Si
 have e1:Ze (some ⟨b,o,none⟩) j cap sz=some ⟨b,o+j*sz,none⟩:=by unfold Ze;rw[ac h];simp[YH]
 rw[e1];exact BU hk f hl hc h1
def F6{pre post:List Value}(hab:a<=b)(hb:b<=xs.length):(pre++(xs++post)).take (pre.length+a)++xs.drop b++(pre++(xs++post)).drop (pre.length+a+(xs.length-b))=pre++((xs.take a++xs.drop b)++(xs.drop (a+(xs.length-b))++post)):=by
 have e1:(pre++(xs++post)).take (pre.length+a)=pre++xs.take a:=by
  rw[Lo,Gx Om,Jv,Ha Om]
 have e2:(pre++(xs++post)).drop (pre.length+a+(xs.length-b))=xs.drop (a+(xs.length-b))++post:=by
  rw[HQ,<-HL,LK,H5 Om]
 rw[e1,e2];simp
def F5{pre X Y Z post:List Value}(h:Z.length=Y.length):(pre++(X++(Y++post))).take (pre.length+X.length)++Z++(pre++(X++(Y++post))).drop (pre.length+X.length+Z.length)=pre++(X++(Z++post)):=by
 have e:pre++(X++(Y++post))=(pre++X)++(Y++post):=Si;have hl:pre.length+X.length=(pre++X).length:=Si;rw[e,hl,List.take_left,<-HL,LK,h,LK];simp
def iP:List Value:=[.int .u64 0,.int .i64 0,.int .i64 0,.int .i64 0,.int .u64 0,.int .u64 0,.int .u64 0,.int .u64 0,.bool false,.slice none 0 0,.string (Qs [])]
def FM(v:Value)(n:Nat)(xs:List Value)(i:Nat)(hi:i<n)(h1:∀u∈xs,u.oneCell'=true):
  Tri prog 66 [v,.int .i64 (i:Int),.int .i64 ((i+1:Nat):Int)] R [QN 138 11 v n xs]
   (λr R' L'=>R=R'/\r.oneCell'=true/\L'=[QN 138 11 r (n-1) (xs.take (i*11)++xs.drop ((i+1)*11))]):=by
 refine To func66 ntmps66 λ_ F _ r_ _ _=>?_;try simp[cB]
 refine C4 (e:=138) (sz:=11) (n:=n) (v:=v) (xs:=xs) Qm Om (λg cap fz pre post hv hxl hf hnc hcm hcs=>?_);subst hv;have hcm2:cap<=9223372036854775807:=by simp[maxLen]at hcm;omega
 have hxd:(xs.drop ((i+1)*11)).length=(n-(i+1))*11:=by rw[Hh,hxl];omega
 refine cS λ_ k1=>Qc (Ps (Qd (k1 (cS λ_ k2=>Qc (Pm (Pm (Pm (Pm (Pa (QV Ih) ?_)))))))));refine Pa ((rk (l:=i) (h:=i+1) (m:=n) Ih Kb rfl rfl rfl rfl Om)) (Qd (k2 (cS λ_ k3=>cS λ_ k4=>Qc (Pm (Pm (Pa QL (Qd (k4 (Qi rfl (λhc16=>?_) (λhc16=>?_))))))))));.exfalso;simp at hc16;omega
 try simp[dx]at hc16
 refine Qh (k3 (cS λ_ k6=>Qc (Pm (Pa (QV Ih) (Ps (Qd (k6 (cS λ_ k7=>mG (L:=[jq g (pre++(xs++post)) 138 fz]) [0,1,2,3,4,5] [] [6,7] (Wc rfl Qf (Wc rfl (Qf rfl) ?_))))))))));refine Wc rfl (Yld.to (qu (l:=0) (h:=i) Ih Kb rfl rfl ⟨_,rfl⟩ Om) (show _=Value.slice (some ⟨g,pre.length,none⟩) i cap by simp[Ze];intro h;simp[YH])) (Wc rfl (Qf rfl) (Wc rfl (Qf rfl) ?_));refine Wc rfl (qu (l:=i+1) (h:=n) Ih Kb rfl ⟨_,rfl⟩ rfl Om) (Xq (Xt ?_));try simp[cC]
 refine lz (ys:=pre++((xs.take (i*11)++xs.drop ((i+1)*11))++(xs.drop (i*11+(xs.length-(i+1)*11))++post))) (sz:=11) (by_:=112) (m:=n-(i+1)) (news:=xs.drop ((i+1)*11)) ⟨Ih,_,_,rfl,rfl,rfl,rfl,rfl⟩ Qo rfl rfl rfl Qm hf (xv (l:=pre++(xs++post)) Ih Qm hxd (λjj u hj=>by rw[HF]at hj;rw[HQ,GY Om,Jv,GG (Gj.1 hj).1];exact hj) (λu hu=>h1 u (Hx hu)) Om) Om (by simp[hxl];omega) (by rw[show(n-(i+1))*11=xs.length-(i+1)*11 by omega];exact F6 (xs:=xs) Om Om) ?_;refine Xx 26 rfl (v':=.slice (some ⟨g,pre.length,none⟩) (n-1) cap) (by congr 1;omega) (Ps (Qd (k7 (cE [0,7] ?_))));refine cS λ_ k8=>Qc (Pm (Pm ?_));refine Pa (QV Ih) (Pm ?_);exact Pa ((Yld.to (qu (l:=n-1) (h:=n) Ih Kb rfl ⟨_,rfl⟩ ⟨_,rfl⟩ Om) (show _=Value.slice (some ⟨g,pre.length+(n-1)*11,none⟩) 1 (cap-(n-1))by unfold Ze;rw[ac Om];simp[YH];omega))) (xE (ys:=pre++((xs.take (i*11)++xs.drop ((i+1)*11))++(iP++post))) (z:=_) (news:=iP) Ih L7 Kr Dc Dc Qo rfl Qm (by intro o ho;exact hf o (by simp at ho|-;omega)) (by simp[hxl,iP];omega) (by rw[show pre.length+(n-1)*11=pre.length+(xs.take (i*11)++xs.drop ((i+1)*11)).length by simp[hxl];omega];exact F5 (by simp[hxl,iP];omega)) (Qd (k8 (cS λ_ k9=>Qc (XM (A:=jq g (pre++((xs.take (i*11)++xs.drop ((i+1)*11))++(iP++post))) 138 fz) (B:=QN 138 11 (.slice (some ⟨g,pre.length,none⟩) (n-1) cap) (n-1) (xs.take (i*11)++xs.drop ((i+1)*11))) Qm (vE (by simp[hxl];omega) (by intro o ho;exact hf o (by simp[hxl,iP]at ho|-;omega)) Om hcm (by simp[hxl,iP]at hcs|-;omega)) (Pm (Ps (Qd (k9 (Qg (r_ (Es results66 [QN 138 11 (.slice (some ⟨g,pre.length,none⟩) (n-1) cap) (n-1) (xs.take (i*11)++xs.drop ((i+1)*11))] ⟨rfl,rfl,rfl⟩))))))))))))
def uD(css:List (List Value))(cy:List Value):css.flatten++cy=(css++[cy]).flatten:=Si
def Aw(v:Value)(l:List Qy)(hl:FrX entE R l v)(hn:l.length<=1000000):Tri prog 101 [v] R []
  (λr R' L'=>R=R'/\r.oneCell'=true/\∃css,Els entE R l css/\L'=[QN 93 2 r l.length css.flatten]):=by
 obtain⟨css,he,hfr⟩:=hl;obtain⟨q,cap,rfl,h1,h2,h3⟩:=id hfr;have hq0:q.isNone=true->l=[]:=λh=>by
  rcases h3 with h0|⟨b,off,rfl,_⟩;.exact Hk h0
  cases h
 refine To func101 ntmps101 λ_ F _ r_ _ _=>?_;try simp[cB]
 refine cS λ_ k1=>Qc (Ps (Qd (k1 (cS λ_ k2=>cS λ_ k3=>Qc (Pm (Pa (gG GN rfl rfl) (Qd (k3 (Qi rfl (λhc4=>?_) (λhc4=>?_))))))))));obtain rfl:=hq0 hc4;refine pZ (A:=QN 93 2 (.slice none 0 0) 0 []) (Yr _ _) ?_;have hcss:css=[]:=Hk he.1;subst hcss;exact cS λ_ k5=>Qc (Ps (Qd (k5 (Qg (r_ (Es LA [QN 93 2 (.slice none 0 0) 0 []] ⟨rfl,rfl,[],he,rfl⟩))))));try simp[dx]at hc4
 refine Qh (k2 (cS λ_ k6=>Qc (Qv (sz:=2) Qo rfl GN Iy H2 rfl rfl rfl Dc Dc (λb5=>Pm (QZ (sz:=2) (by_:=24) ⟨GN,_,_,rfl,rfl,rfl,rfl,rfl⟩ Qo rfl rfl rfl Qm (FrX.src (T:=entE) GN he hfr) rfl Qu (by simp[maxLen];omega) (λv7 ho7 hh7=>?_))))));rw[H4,Hr];refine Ps (Qd (k6 (Qg (r_ (Es LA [QN 93 2 v7 l.length css.flatten] ?_)))));exact⟨rfl,by assumption,css,he,rfl⟩
def A1(m:Msg)(ve:Value)(hve:FrX entE R m.es ve)(hn:m.es.length<=1000000):Tri prog 89 [.agg ⟨Xl m ve⟩] R []
  (λr R' L'=>L'=[]/\∃ve',r=.agg ⟨Xl m ve'⟩/\FrX entE R' m.es ve'):=by
 unfold Xl;have hveo:=hve.one;refine To func89 ntmps89 λ_ F _ r_ _ _=>?_;try simp[cB]
 refine cS λ_ k1=>Qc (Xc Qo rfl rfl rfl (λb1=>QC Qo rfl Ia rfl (λb2=>Qd (k1 (cS λ_ k2=>Qc (Pa (Ga GF Iu) (Pa (La zG) (Ra call101 (Aw ve m.es hve hn) ?_))))))));rintro r R1 L' hR1 ⟨rfl,hro,css,he,rfl⟩;refine YC (e:=93) (sz:=2) (n:=m.es.length) (v:=r) (xs:=css.flatten) Qm (λR2 hR2 hfr hxl=>?_);have hfx:=FrozenS.frx hfr (he.mono hR2);try simp[cB]
 refine Pa (Ga GF Iu) (Sa zG (Qd (k2 (cS λ_ k3=>Qc ?_))));exact Pa (Lb Yl) (Qr Yl rfl Qo rfl rfl (msgE.one (R:=R2) (x:=m) ⟨r,rfl,hfx⟩) Qm (by exact Gl 10) rfl (Qd (k3 (Qg (r_ (Ea results89 (.cons (QP Yl) .nil) [] QB ⟨rfl,r,rfl,hfx⟩))))))
def XD(k:Int):List Msg->List Yf
 |[]=>[]
 |m::l=>(k+1,m)::XD (k+1) l
def yu:∀(l:List Msg) (k:Int),(XD k l).length=l.length
 |[],_=>rfl
 |m::l,k=>by rw[XD,GD,yu l,GD]
def gg:∀(l:List Msg) (k:Int) (i:Nat) (m:Msg),l[i]?=some m->XD k (l.take (i+1))=XD k (l.take i)++[(k+((i+1:Nat):Int),m)]
 |[],_,i,m,h=>by simp at h
 |x::l,k,0,m,h=>by simp at h;subst h;simp[XD]
 |x::l,k,i+1,m,h=>by
  rw[KL,KL,XD,XD,gg l (k+1) i m (by simpa using h)];simp[HW,IH,KP,MA,true_and,List.append_cancel_left_eq]
  push_cast
  omega
@[reducible] def YT (b : Nat) (v : Value) (last : Int) : Qj := QA b [v, .int .u64 last] 115
@[reducible] def YL (v : Value) (st : List Yf) (css : List (List Value)) : Qj := QN 138 11 v st.length css.flatten
def y6:Tri prog 46 [] R [] (λr R' L'=>R=R'/\∃b,r=.pointer (some ⟨b,0,none⟩)/\L'=[YT b (.slice none 0 0) 0,YL (.slice none 0 0) [] []]):=by
 refine To func46 ntmps46 λ_ F _ r_ _ _=>?_;try simp[cB]
 exact cE [] (cS λ_ k1=>Qc (Ps (Qd (k1 (cS λ_ k2=>Qc (Zb (A:=YL (.slice none 0 0) [] []) (Yr _ _) (Pa (Xh (cells:=[_,_]) [(0,1),(1,1)] ID zeroValue115 (λ_=>rfl)) (Xc Qo rfl rfl rfl (λb=>Ps (Qd (k2 (Qg (r_ (Es results46 [YT b (.slice none 0 0) 0,YL (.slice none 0 0) [] []] ⟨rfl,b,rfl,rfl⟩))))))))))))))
def zE(m:Msg):Prop:=m.es.length<=1000000
def oT(b:Nat)(v:Value)(last:Int)(st:List Yf)(css:List (List Value))(hk:Els oneE R st css)(vl:Value)(ms:List Msg)(hms:FrX msgE R ms vl)(hsm:∀m∈ms,zE m)
  (hl:0<=last/\last+ms.length<=1000000) (hst:st.length+ms.length<=1000000):
  Tri prog 65 [.pointer (some ⟨b,0,none⟩),vl] R [YT b v last,YL v st css]
   (λr R' L'=>∃v' css',Els oneE R' (st++XD last ms) css'/\L'=[YT b v' (last+ms.length),YL v' (st++XD last ms) css']):=by
 obtain⟨q,cap,rfl,hcap,hcm⟩:=hms.shape
 refine To func65 ntmps65 λ_ F _ _ n_ _=>?_
 try simp only[cB]
 refine qh (A:=YL v st css) Qm zl (λhvo=>cS λ_ k1=>cS λ_ k2=>Qc (Pm (Pa (Yv Ma) (Qd (k2 (Qt rfl (Qh (k1 (cS λ_ k3=>Qc (Pm (Pa (QV JU) (Pm (Qd (k3 (Qp ?_)))))))))))))))
 rw[show last=last+((0:Nat):Int)by simp,show st=st++XD last (ms.take 0)by simp[XD]]
 refine Lp (λ(x:Nat×Value×List (List Value)×Hp)=>[(0,.pointer (some ⟨b,0,none⟩)),(8,.slice q ms.length cap),(9,.int .i64 (ms.length:Int)),(10,.int .i64 (x.1:Int))]) (λx=>x.2.2.2) (λx=>YT b x.2.1 (last+x.1)::YL x.2.1 (st++XD last (ms.take x.1)) x.2.2.1::F) (λx=>x.1<=ms.length/\R.le x.2.2.2/\Els oneE x.2.2.2 (st++XD last (ms.take x.1)) x.2.2.1/\x.2.1.oneCell'=true) (λx=>ms.length-x.1) (0,v,css,R) (⟨by simp,Hp.le_refl R,by simpa[XD]using hk,hvo⟩) ?_
 rintro⟨i,v1,css1,R1⟩ ⟨hi,hR1,hk1,hvo1⟩
 try dsimp only
 dsimp only at hi hR1 hk1 hvo1
 refine cS λ_ k4=>Qc (Pa QR (Qd (k4 (cS λ_ k5=>Qi rfl (λhc11=>?_) (λhc11=>?_)))))
 try simp only[dx]at hc11
 refine Qh (k5 (cS λ_ k7=>Qp (cS λ_ k8=>Qc ?_)))
 obtain⟨m,hm⟩:∃m,ms[i]?=some m:=⟨ms[i]'Om,by simp⟩
 obtain⟨bm,off,cap',cs,he,⟨ve,rfl,hve⟩,hcl,hcell⟩:=(hms.mono hR1).at hm
 obtain⟨rfl,rfl⟩:q=some ⟨bm,off,none⟩/\cap=cap':=by cases he;exact⟨rfl,rfl⟩
 unfold Xl at hcell
 have hveo:=hve.one
 have hmm:=hsm m (Gv hm)
 have hlen:(st++XD last (ms.take i)).length=st.length+i:=by rw[Gm,yu,GX];omega
 refine Pa (QE JU LS rfl rfl Qu) (Pa ((Yq Yl (vs:=Xl m ve) rfl rfl (λj u hj=>hcell j u hj))) (QC Qo rfl Ia rfl (λb5=>Qr Yl rfl Qo rfl rfl (msgE.one (R:=R1) (x:=m) ⟨ve,rfl,hve⟩) Qm (by exact Gl 10) rfl (Qd (k8 (cS λ_ k9=>Qc (Pm (Pa Qe (Pa (Ga ID Gw) ?_)))))))))
 refine Pa (La QO) (Pa Yg (Xx 18 rfl (v':=.int .u64 (last+((i+1:Nat):Int))) (by congr 1;push_cast;omega) (Pa Qe (Pa (Ga ID Gw) (Sa QO (Qd (k9 (mG (L:=[YT b v1 (last+((i+1:Nat):Int)),QA b5 (Xl m ve) 117]) [0,1,2,3,4,5,6,7,8,9] [10,11,12,13] [14,15,16] (Wc rfl Qf (Wc rfl (Qf rfl) (Wc rfl (Qe rfl) ?_)))))))))))
 refine Wc rfl (Ga ID Kd) ?_
 refine Wc rfl (La iL) (Wc rfl (Qf rfl) (Wc rfl (Qe rfl) ?_))
 refine Wc rfl (Ga ID Gw) ?_
 refine Wc rfl (La QO) ?_
 refine Wc rfl (Lb Yl) (Xq (QT rfl ?_))
 try simp only[cC]
 refine Ra call89 (A1 m ve hve hmm) ?_
 rintro r R2 L' hR2 ⟨rfl,ve',rfl,hve'⟩
 have hkn:Els oneE R2 (st++XD last (ms.take (i+1))) (css1++[lE (last+((i+1:Nat):Int),m) ve']):=by rw[gg ms last i m hm,<-GA];exact(hk1.mono hR2).snoc ⟨ve',rfl,hve'⟩
 try simp only[cB]
 refine QU QB Qw (QT rfl ?_)
 try simp only[cC]
 refine Pa (Xh (cells:=[_,_,_,_,_,_,_,_,_,_,_]) [(0,1),(1,10)] LN L7 (λ_=>rfl)) (QU QB Qw (QT rfl ?_))
 try simp only[cC]
 refine Qv (sz:=11) Qo rfl Ih Kb L7 rfl rfl rfl Dc Dc (λbz=>QU QB Qw (QT rfl ?_))
 try simp only[cC]
 refine QZ (sz:=11) (by_:=112) ⟨Ih,_,_,rfl,rfl,rfl,rfl,rfl⟩ Qo rfl rfl rfl Qm (XL (xs:=lE (last+((i+1:Nat):Int),m) ve') Ih Qm (oneE.one (R:=R2) (x:=(last+((i+1:Nat):Int),m)) ⟨ve',rfl,hve'⟩)) rfl Qu (by simp only[maxLen];omega) (λv34 ho34 hh34=>?_)
 rw[uD]
 rw[show(st++XD last (ms.take i)).length+1=(st++XD last (ms.take (i+1))).length by rw[gg ms last i m hm];simp;omega]
 refine QU QB Qw (Xt ?_)
 try simp only[cC]
 refine Pa Qe (Pa (Ga ID Kd) (Sa iL (Qd (k7 (cE [0,8,9,10] (Qc ?_))))))
 refine Pa Qz (Pm (Qd (ro rfl (rd ((i+1,v34,css1++[lE (last+((i+1:Nat):Int),m) ve'],R2)) (⟨by dsimp only;omega,Hp.le_trans hR1 hR2,hkn,by assumption⟩) Do))))
 try simp only[dx]at hc11
 refine QG (n_ (Et results65 [YT b v1 (last+i),YL v1 (st++XD last (ms.take i)) css1] QB ?_))
 have e:i=ms.length:=by(try simp at hc11);omega
 subst e;rw[Gx (Gl _)]at hk1|-;exact⟨v1,css1,hk1,rfl⟩
def bW(b:Nat)(v:Value)(last:Int)(st:List Yf)(css:List (List Value)):
  QTri prog 29 [.pointer (some ⟨b,0,none⟩)] R [YT b v last,YL v st css] (.int .i64 (st.length:Int)):=by
 refine Tri.q (To func29 ntmps29 λ_ F _ r_ _ _=>?_);try simp[cB]
 refine cS λ_ k1=>Qc (Ps (Qd (k1 (cS λ_ k2=>cS λ_ k3=>Qc (Pm (Pa (Yv Ma) (Qd (k3 (Qt rfl (Qh (k2 (cS λ_ k4=>Qc (Pm (Pa Qe (Pa (Ga ID Kd) ?_)))))))))))))));exact Pa (La iL) (Pa (Zf Ih) (Ps (Qd (k4 (Qg (r_ (Es results29 [YT b v last,YL v st css] ⟨rfl,rfl,rfl⟩)))))))
def Yb(st:List Yf)(i:Int):Bool:=decide (0<=i/\i<st.length)
def XV(st:List Yf)(i:Int):Yf:=if Yb st i then st.getD i.toNat (0,Msg.zero)else(0,Msg.zero)
def YO(st:List Yf)(i:Int):List Yf:=if Yb st i then st.eraseIdx i.toNat else st
def cI{x:Yf}(h:st[i]?=some x):XV st i=x/\Yb st i=true:=by
 have hi:=(Gj.1 h).1;have hb:Yb st i=true:=by unfold Yb;simp;omega
 refine⟨?_,hb⟩;unfold XV;rw[an hb,Gt,Hc,h];rfl
def zj{i:Int}(h:Yb st i=false):XV st i=(0,Msg.zero)/\YO st i=st:=by
 unfold XV YO;rw[h];exact⟨rfl,rfl⟩
def Fj{x:Yf}{ve:Value}(h:(xs.drop (i*11)).take 11=lE x ve):(xs.drop ((i:Int).toNat*11+1)).take 10=Xl x.2 ve:=by
 have:((xs.drop (i*11)).take 11).drop 1=Xl x.2 ve:=by rw[h];rfl
 rw[Hc,<-this,List.drop_take,HL]
def Fk{x:Yf}{ve:Value}(h:(xs.drop (i*11)).take 11=lE x ve):ZO xs ((i:Int).toNat*11+0)=some (.int .u64 x.1):=by
 have:((xs.drop (i*11)).take 11)[0]?=some (.int .u64 x.1):=by rw[h];rfl
 rw[Hc,qr];rw[HS,an Om,HF]at this;exact this
def fO(st:List Yf):Prop:=∀x∈st,zE x.2
def sr(b:Nat)(v:Value)(last:Int)(st:List Yf)(css:List (List Value))(hk:Els oneE R st css)(hsm:fO st)(i:Int):
  Tri prog 67 [.pointer (some ⟨b,0,none⟩),.int .i64 i] R [YT b v last,YL v st css]
   (λr R' L'=>L'=[YT b v last,YL v st css]/\∃ve,r=.tuple #[.agg ⟨Xl (XV st i).2 ve⟩,.int .u64 (XV st i).1,.bool (Yb st i)]/\FrX entE R' (XV st i).2.es ve):=by
 refine To func67 ntmps67 λ_ F _ r_ _ _=>?_
 try simp[cB]
 refine cS λ_ k1=>Qc (QC Qo rfl Ia rfl (λbo=>Ps (Ps (Qd (k1 (cS λ_ k2=>cS λ_ k3=>Qc (Pm (Pa QR (Pm (QM 9 rfl (λhg9=>?_) (λhg9=>?_)))))))))))
 try simp[dx]at hg9
 refine Pk (Pk (Pk (Pk (Pa Qq (Qd (k3 (QD rfl (cS λ_ k4=>Qc (Pa (Xh (cells:=[_,_,_,_,_,_,_,_,_,_]) [(0,1),(1,1),(2,1),(3,1),(4,1),(5,1),(6,1),(7,1),(8,1),(9,1)] GF Ia (λ_=>rfl)) (Qr Yl rfl Qo rfl rfl (by(first|(simp[Value.oneCell'];done)|(intro u hu;simp[Gn,Gs,G7]at hu;rcases hu with rfl|rfl|rfl|rfl<;>first|rfl|assumption))) Qm (by(simp)) rfl ?_))))))))))
 refine Ps (Ps (Qd (k4 (Qg (r_ (Ea results67 (.cons (QP Yl) (.cons QH (.cons QH .nil))) [YT b v last,YL v st css] QB ?_))))))
 have hb:Yb st i=false:=by unfold Yb;simp;omega
 rw[(zj hb).1,hb];exact⟨rfl,_,rfl,FrX.nil⟩
 try simp[dx]at hg9
 refine Pb Qf (Pb Qf (Pb (Ca MX (bW b v last st css)) (Pb ZP (Pa Qn (Qd (k3 (cE [0,1,4,14] (Qi rfl (λhc14=>?_) (λhc14=>?_)))))))))
 try simp[dx]at hc14
 refine cS λ_ k6=>Qc (Pa (Xh (cells:=[_,_,_,_,_,_,_,_,_,_]) [(0,1),(1,1),(2,1),(3,1),(4,1),(5,1),(6,1),(7,1),(8,1),(9,1)] GF Ia (λ_=>rfl)) (Qr Yl rfl Qo rfl rfl (by(first|(simp[Value.oneCell'];done)|(intro u hu;simp[Gn,Gs,G7]at hu;rcases hu with rfl|rfl|rfl|rfl<;>first|rfl|assumption))) Qm (by(simp)) rfl ?_))
 refine Ps (Ps (Qd (k6 (Qg (r_ (Ea results67 (.cons (QP Yl) (.cons QH (.cons QH .nil))) [YT b v last,YL v st css] QB ?_))))))
 have hb:Yb st i=false:=by unfold Yb;simp;omega
 rw[(zj hb).1,hb];exact⟨rfl,_,rfl,FrX.nil⟩
 try simp[dx]at hc14
 refine Qh (k2 (cS λ_ k7=>?_))
 obtain⟨i,rfl⟩:=Hu (show 0<=i by(try simp at hg9 hc14);omega)
 have hi:i<st.length:=by(try simp at hc14);omega
 obtain⟨⟨n,m⟩,hx⟩:∃x,st[i]?=some x:=⟨st[i],Si⟩
 obtain⟨cs,hcs,⟨ve,rfl,hve⟩,hpart⟩:=hk.get hx
 obtain⟨ea,eb⟩:=cI hx
 have hmm:zE m:=hsm (n,m) (Gv hx)
 refine mG (L:=[YT b v last,YL v st css]) [0,1,2,3,4,5,6,7,9,10,11,12,13,14,15,16] [8,17] [18,19] (Wc rfl Qf (Wc rfl (Qe rfl) ?_))
 refine Wc rfl (Ga ID Kd) ?_
 refine Wc rfl (La iL) (Wc rfl (Qf rfl) ?_)
 refine Wc rfl (Xn (sz:=11) (n:=st.length) Ih Kb) (Wc rfl (qR (k:=1) LN rfl (m:=10) Dc LS rfl Qm Om) (Wc rfl (jZ (sz:=11) (n:=st.length) (vs:=Xl m ve) Yl rfl Qm (Fj hpart) rfl Om) (Wc rfl (Qf rfl) (Wc rfl (Qe rfl) ?_))))
 refine Wc rfl (Ga ID Kd) ?_
 refine Wc rfl (La iL) (Wc rfl (Qf rfl) ?_)
 refine Wc rfl (Xn (sz:=11) (n:=st.length) Ih Kb) (Wc rfl (qR (k:=0) LN rfl (m:=1) Dc Gw rfl Qm Om) (Wc rfl (XC QO rfl Qm (Fk hpart)) (Xq (QT rfl ?_))))
 try simp[cC]
 refine Ra call89 (A1 m ve hve hmm) ?_
 rintro r R2 L' hR2 ⟨rfl,ve',rfl,hve'⟩
 try simp[cB]
 refine QU QB Qw (QT rfl ?_)
 try simp[cC]
 refine Qr Yl rfl Qo rfl rfl (msgE.one (R:=R2) (x:=m) ⟨ve',rfl,hve'⟩) Qm (by exact Gl 10) rfl (QU QB Qw (Xt ?_))
 try simp[cC]
 refine Ps (Ps (Qd (k7 (cE [4,5,6] (Qg (r_ ?_))))))
 refine Ea results67 (.cons (QP Yl) (.cons QH (.cons QH .nil))) [YT b v last,YL v st css] QB ?_
 rw[ea,eb];exact⟨rfl,ve',rfl,hve'⟩
def Els.eraseIdx{α:Type}{T:Elt α}{l:List α}{css:List (List Value)}(k:Els T R l css)(i:Nat):Els T R (l.eraseIdx i) (css.eraseIdx i):=by
 rw[JD,JD];exact(k.take i).app (k.drop (i+1))
def uF{α:Type}{T:Elt α}{l:List α}{css:List (List Value)}(k:Els T R l css)(i:Nat):css.flatten.take (i*T.sz)++css.flatten.drop ((i+1)*T.sz)=(css.eraseIdx i).flatten:=by
 rw[uC i k.len,uE (i+1) k.len,JD,List.flatten_append]
def CO{i:Int}(h0:¬i<0)(h1:¬(st.length:Int)<=i):∃n:Nat,i=n/\n<st.length/\Yb st i=true:=by
 obtain⟨n,rfl⟩:=Hu (show 0<=i by omega);exact⟨n,rfl,by omega,by unfold Yb;simp;omega⟩
def mF(b:Nat)(v:Value)(last:Int)(st:List Yf)(css:List (List Value))(hk:Els oneE R st css)(hst:st.length<=1000000)(i:Int):
  Tri prog 48 [.pointer (some ⟨b,0,none⟩),.int .i64 i] R [YT b v last,YL v st css]
   (λr R' L'=>R=R'/\r=.bool (Yb st i)/\∃v' css',Els oneE R' (YO st i) css'/\L'=[YT b v' last,YL v' (YO st i) css']):=by
 refine To func48 ntmps48 λ_ F _ r_ _ _=>?_;try simp[cB]
 refine cS λ_ k1=>Qc (Ps (Qd (k1 (cS λ_ k2=>cS λ_ k3=>Qc (Pm (Pa QR (Pm (QM 7 rfl (λhg7=>?_) (λhg7=>?_)))))))));try simp[dx]at hg7
 refine Pk (Pk (Pk (Pk (Pa Qq (Qd (k3 (QD rfl (cS λ_ k4=>Qc (Ps (Qd (k4 (Qg (r_ (Es results48 [YT b v last,YL v st css] ?_))))))))))))));have hb:Yb st i=false:=by unfold Yb;simp;omega
 rw[(zj hb).2,hb];exact⟨rfl,rfl,v,css,hk,rfl⟩;try simp[dx]at hg7
 refine Pb Qf (Pb Qf (Pb (Ca MX (bW b v last st css)) (Pb ZP (Pa Qn (Qd (k3 (Qi rfl (λhc12=>?_) (λhc12=>?_))))))));try simp[dx]at hc12
 refine cS λ_ k6=>Qc (Ps (Qd (k6 (Qg (r_ (Es results48 [YT b v last,YL v st css] ?_))))));have hb:Yb st i=false:=by unfold Yb;simp;omega
 rw[(zj hb).2,hb];exact⟨rfl,rfl,v,css,hk,rfl⟩;try simp[dx]at hc12
 refine Qh (k2 (cS λ_ k7=>Qc ?_));obtain⟨i,rfl,hi,hb⟩:=CO (st:=st) (i:=i) (by(try simp at hg7 hc12);omega) (by(try simp at hg7 hc12);omega);have hflat:=uF hk i;have hlen:st.length-1=(st.eraseIdx i).length:=by rw[LJ hi]
 have hdl:YO st i=st.eraseIdx i:=by unfold YO;rw[an hb];rfl
 refine Pm (Pm (Pa Qe (Pa (Ga ID Kd) ?_)));refine Pa (La iL) (Pm (Pm ?_));refine Pa Qz (Xx 20 rfl (v':=.int .i64 ((i+1:Nat):Int)) (by congr 1) (Ra call66 (FM v st.length css.flatten i hi hk.one) ?_));rintro r R' L' hR ⟨rfl,hro,rfl⟩;rw[show css.flatten.take (i*11)++css.flatten.drop ((i+1)*11)=(css.eraseIdx i).flatten from hflat,hlen];try simp[cB]
 refine Pa Qe (Pa (Ga ID Kd) (Sa iL (Qd (k7 (cE [] (cS λ_ k8=>Qc (Ps (Qd (k8 (Qg (r_ (Es results48 [YT b r last,YL r (st.eraseIdx i) (css.eraseIdx i)] ?_))))))))))));rw[hdl,hb];exact⟨rfl,rfl,r,_,hk.eraseIdx i,rfl⟩
def mE(b:Nat)(v:Value)(last:Int)(st:List Yf)(css:List (List Value))(hk:Els oneE R st css)(hsm:fO st)(hst:st.length<=1000000)(i:Int):
  Tri prog 52 [.pointer (some ⟨b,0,none⟩),.int .i64 i] R [YT b v last,YL v st css]
   (λr R' L'=>(∃ve,r=.tuple #[.agg ⟨Xl (XV st i).2 ve⟩,.bool (Yb st i)]/\FrX entE R' (XV st i).2.es ve)/\∃v' css',Els oneE R' (YO st i) css'/\L'=[YT b v' last,YL v' (YO st i) css']):=by
 refine To func52 ntmps52 λ_ F _ r_ _ _=>?_;try simp[cB]
 refine cS λ_ k1=>Qc (QC Qo rfl Ia rfl (λbo=>Ps (Qd (k1 (cS λ_ k2=>Qc (Pm (Pm (Ra call67 (sr b v last st css hk hsm i) ?_))))))));rintro r R1 L' hR1 ⟨rfl,ve,rfl,hve⟩;have hk1:=hk.mono hR1;have hone:∀u∈Xl (XV st i).2 ve,u.oneCell'=true:=msgE.one (R:=R1) (x:=(XV st i).2) ⟨ve,rfl,hve⟩;try simp[cB]
 refine Pm (Pa (Ql rfl rfl) (Pa (Ql rfl rfl) (Pa (Ql rfl rfl) (QC Qo rfl Ia rfl (λb6=>Qr Yl rfl Qo rfl rfl hone Qm (by exact Gl 10) rfl ?_)))));refine Ps (Ps (Qd (k2 (cS λ_ k3=>l7 (L:=[QA b6 (Xl (XV st i).2 ve) 117]) [0,1,2,3,4] [5,6,7] [8] _ oS Qw Kr Kr Kr rfl (Wc rfl (Lb (vs:=Xl (XV st i).2 ve) Yl) (Wc rfl (Qf rfl) (Wc rfl (Qf rfl) (CU 18 rfl (λhg18=>?_) (λhg18=>?_)))))))));rw[hg18];try simp[dx]at hg18
 refine Wd rfl Qf ?_;refine Wd rfl Qf (Xq (Xi [5] Kr ⟨?_,trivial⟩));refine QW rfl ?_;try simp[cC]
 refine XW (cP rfl) rfl call48 rfl (mF b v last st css hk1 hst i) Za (λ_ _ _ _ h=>h.elim) ?_;rintro r R2 L' hR2 ⟨rfl,rfl,v2,css2,hk2,rfl⟩;try simp[cB]
 refine QX QB Qw (Xi [6,7] Kr ⟨?_,?_,trivial⟩);refine QW rfl ?_;try simp[cC]
 refine Pa Qq (QX QB Qw (Xi [7] Kr ⟨?_,trivial⟩));refine QW rfl ?_;try simp[cC]
 refine Qr Yl rfl Qo rfl rfl hone Qm (by exact Gl 10) rfl (QX QB Qw (Zi ?_));try simp[cC]
 exact Ps (Qd (k3 (Qg (r_ (Ea L4 (.cons (QP Yl) (.cons QH .nil)) [YT b v2 last,YL v2 (YO st i) css2] QB ⟨⟨ve,rfl,hve⟩,v2,css2,hk2,rfl⟩)))));refine QW rfl ?_;try simp[cC]
 refine Qr Yl rfl Qo rfl rfl hone Qm (by exact Gl 10) rfl (QX QB Qw (Xi [6] Kr ⟨?_,trivial⟩));refine QW rfl ?_;try simp[cC]
 refine Pa Qq (QX QB Qw (Zi ?_));try simp[cC]
 refine Ps (Qd (k3 (cE [4,5] (Qg (r_ ?_)))));refine Ea L4 (.cons (QP Yl) (.cons QH .nil)) [YT b v2 last,YL v2 (YO st i) css2] QB ?_;exact⟨⟨ve,rfl,hve⟩,v2,css2,hk2,rfl⟩;rw[hg18];try simp[dx]at hg18
 refine sP rfl rfl rfl (AK rfl rfl rfl rfl rfl) (sP rfl rfl rfl (AK rfl rfl rfl rfl rfl) (Xq (Xi [5] Kr ⟨?_,trivial⟩)));refine QW rfl ?_;try simp[cC]
 refine Pk (QX QB Qw (Xi [6,7] Kr ⟨?_,?_,trivial⟩));refine QW rfl ?_;try simp[cC]
 refine Pa Qn (QX QB Qw (Xi [7] Kr ⟨?_,trivial⟩));refine QW rfl ?_;try simp[cC]
 refine Qr Yl rfl Qo rfl rfl hone Qm (by exact Gl 10) rfl (QX QB Qw (Zi ?_));try simp[cC]
 refine Ps (Qd (k3 (Qg (r_ (Ea L4 (.cons (QP Yl) (.cons QH .nil)) [YT b v last,YL v st css] QB ?_)))));rw[(zj hg18).2];exact⟨⟨ve,by rw[hg18];rfl,hve⟩,v,css,hk1,rfl⟩;refine QW rfl ?_;try simp[cC]
 refine Qr Yl rfl Qo rfl rfl hone Qm (by exact Gl 10) rfl (QX QB Qw (Xi [6] Kr ⟨?_,trivial⟩));refine QW rfl ?_;try simp[cC]
 refine Pa Qn (QX QB Qw (Zi ?_));try simp[cC]
 refine Ps (Qd (k3 (Qg (r_ (Ea L4 (.cons (QP Yl) (.cons QH .nil)) [YT b v last,YL v st css] QB ?_)))));rw[(zj hg18).2];exact⟨⟨ve,by rw[hg18];rfl,hve⟩,v,css,hk1,rfl⟩
def xb(h:fO st)(i:Int):zE (XV st i).2:=by
 cases hb:Yb st i with
 |false=>rw[(zj hb).1];simp[zE,Msg.zero]
 |true=>
  obtain⟨n,rfl⟩:=Hu (show 0<=i by unfold Yb at hb;simp at hb;omega);have hn:n<st.length:=by unfold Yb at hb;simp at hb;omega
  rw[(cI (x:=st[n]) Si).1];exact h _ (Kj hn)
def aG(st:List Yf)(last i:Int):List Yf:=if Yb st i then st++XD last [(XV st i).2]else st
def kd(st:List Yf)(last i:Int):Int:=if Yb st i then last+1 else last
def ul(b:Nat)(v:Value)(last:Int)(st:List Yf)(css:List (List Value))(hk:Els oneE R st css)(hsm:fO st)(hst:st.length<=100000)(hl:0<=last/\last<=100000)(i:Int):
  Tri prog 49 [.pointer (some ⟨b,0,none⟩),.int .i64 i] R [YT b v last,YL v st css]
   (λr R' L'=>r=.bool (Yb st i)/\∃v' css',Els oneE R' (aG st last i) css'/\L'=[YT b v' (kd st last i),YL v' (aG st last i) css']):=by
 refine To func49 ntmps49 λ_ F _ r_ _ _=>?_;try simp[cB]
 refine cS λ_ k1=>Qc (Ps (Qd (k1 (cS λ_ k2=>Qc (Pm (Pm (Ra call67 (sr b v last st css hk hsm i) ?_)))))));rintro r R1 L' hR1 ⟨rfl,ve,rfl,hve⟩;have hk1:=hk.mono hR1;have hone:∀u∈Xl (XV st i).2 ve,u.oneCell'=true:=msgE.one (R:=R1) (x:=(XV st i).2) ⟨ve,rfl,hve⟩;try simp[cB]
 refine Pm (Pa (Ql rfl rfl) (Pa (Ql rfl rfl) (Pa (Ql rfl rfl) (QC Qo rfl Ia rfl (λb5=>Qr Yl rfl Qo rfl rfl hone Qm (by exact Gl 10) rfl ?_)))));refine Ps (Ps (Qd (k2 (cS λ_ k3=>cS λ_ k4=>Qc ?_))));refine Pm (Qd (k4 (Qi rfl (λhc15=>?_) (λhc15=>?_))));try simp[dx]at hc15
 refine Qc (Pm (Pa ((Lb (vs:=Xl (XV st i).2 ve) Yl)) (Qv (sz:=10) Qo rfl JU LS Ia rfl rfl rfl Dc Dc (λbz=>YC (e:=117) (sz:=10) (n:=1) (v:=.slice (some ⟨bz,0,none⟩) 1 1) (xs:=Xl (XV st i).2 ve) Qm (λR2 hR2 hfr hxl=>?_)))));have hfx:FrX msgE R2 [(XV st i).2] (.slice (some ⟨bz,0,none⟩) 1 1):=FrozenS.frx (l:=[(XV st i).2]) (css:=[Xl (XV st i).2 ve]) (by simpa using hfr) (Els.single ⟨ve,rfl,hve.mono hR2⟩);refine Ra call65 (oT b v last st css (hk1.mono hR2) _ [(XV st i).2] hfx (λm hm=>by simp at hm;subst hm;exact xb hsm i) (by simp;omega) (by simp;omega)) ?_;rintro r R3 L' hR3 ⟨v3,css3,hk3,rfl⟩;try simp[cB]
 refine Qd (k3 (cS λ_ k6=>Qc (Pm (Ps (Qd (k6 (Qg (r_ (Er results49 [YT b v3 (last+([(XV st i).2].length:Nat)),YL v3 (st++XD last [(XV st i).2]) css3] (by first|exact Hp.le_trans hR1 (Hp.le_trans hR2 hR3)|exact hR1) ?_)))))))));have e1:aG st last i=st++XD last [(XV st i).2]:=by unfold aG;rw[an hc15]
 have e2:kd st last i=last+1:=by unfold kd;rw[an hc15]
 rw[e1,e2];exact⟨rfl,v3,css3,hk3,rfl⟩;try simp[dx]at hc15
 refine Qh (k3 (cS λ_ k7=>Qc (Pm (Ps (Qd (k7 (Qg (r_ (Er results49 [YT b v last,YL v st css] (by first|exact Hp.le_trans hR1 (Hp.le_trans hR2 hR3)|exact hR1) ?_)))))))));have e1:aG st last i=st:=by unfold aG;rw[hc15];rfl
 have e2:kd st last i=last:=by unfold kd;rw[hc15];rfl
 rw[e1,e2];exact⟨rfl,v,css,hk1,rfl⟩
def iA(m j:Nat):((m:Nat):Int).tmod (j:Int)=((m%j:Nat):Int):=by rw[IV Om];rfl
def nV(m j:Nat):((m:Nat):Int).tdiv (j:Int)=((m/j:Nat):Int):=by rw[J1 Om];rfl
def DU(n:Nat)(hn:n<18446744073709551616):QTri prog 183 [.int .u64 (n:Int)] R [] (.string (Qs (XF n))):=by
 have hnl:(XF n).length<=8:=zJ 8 n Om
 refine Tri.q (To func183 ntmps183 λ_ F _ r_ _ _=>?_)
 try simp[cB]
 refine cS λ_ k1=>Qc (Ps (Qd (k1 (cS λ_ k2=>Qc (Ps (Qd (k2 (cS λ_ k3=>Qp (Lp (λ(x:Nat×List UInt8)=>[(0,.int .u64 (x.1:Int)),(3,.string (Qs x.2))]) (λx=>R) (λx=>F) (λx=>x.1<=n/\XF x.1++x.2=XF n) (λx=>x.1) (n,[]) (⟨Gl _,Si⟩) ?_)))))))))
 rintro⟨m,acc⟩ ⟨hm,he⟩
 try dsimp only
 dsimp only at hm he
 have hel:=GM List.length he
 simp[Gm]at hel
 refine cS λ_ k4=>cS λ_ k5=>Qc (Pm (Pa XG (Qd (k5 (Qi rfl (λhc5=>?_) (λhc5=>?_))))))
 try simp[dx]at hc5
 refine Qh (k4 (Qp (cS λ_ k7=>Qc (Pm (Pa (cJ rfl rfl Qu) (Xx 7 rfl (GM (Value.int .u64) (iA m 256)) (Pa (XE Ib HN rfl (by(simp[IntKind.min,IntKind.max,IntKind.signed,IntKind.bits,GP,H3,H7];omega))) (Xx 8 rfl (v':=.int .u8 ((UInt8.ofNat (m%256)).toNat:Int)) (by rw[YS _ Om]) (Qv (sz:=1) Qo rfl Ig Lw Kk rfl rfl rfl Dc Dc (λb9=>Pa ((zZ (bs:=[UInt8.ofNat (m%256)]) Ig HN GZ rfl Qm)) (Pm ?_)))))))))))
 have hs1:[UInt8.ofNat (m%256)].length+acc.length<=9223372036854775807:=by simp;omega
 refine Pa zB (Ps (Qd (k7 (Qc (Pm (Pa (np rfl rfl Qu) ?_))))))
 refine Xx 14 rfl (v':=.int .u64 ((m/256:Nat):Int)) (by congr 1;rw[show((256:Int))=((256:Nat):Int)from rfl,nV,yF ⟨Om,Om⟩]) (Ps (Qd (ro rfl (rd ((m/256,[UInt8.ofNat (m%256)]++acc)) (⟨by dsimp only;omega,by dsimp only;rw[<-he,jQ (n:=m) (by(try simp at hc5);omega)];simp⟩) (by dsimp only;(try simp at hc5);omega)))))
 try simp[dx]at hc5
 refine QG (k3 (cS λ_ k8=>Qc (Pm (Ps (Qd (k8 (Qg (r_ (Es results183 [] ?_)))))))))
 refine⟨?_,rfl,rfl⟩;obtain rfl:m=0:=by(try simp at hc5);omega
 rw[yo,Hr]at he;rw[<-he];rfl
def tY(n:Nat)(hn:n<=big):QTri prog 184 [.int .i64 (n:Int)] R [] (.string (Qs (XO n))):=by
 unfold big at hn;have hsl:=ZU 5 n (by simp;omega);refine Tri.q (To func184 ntmps184 λ_ F _ r_ _ _=>?_);try simp[cB]
 refine cS λ_ k1=>Qc (Ps (Qd (k1 (cS λ_ k2=>Qc (Ps (Qd (k2 (cS λ_ k3=>Qp (Lp (λ(x:Nat×List UInt8)=>[(0,.int .i64 (x.1:Int)),(3,.string (Qs x.2))]) (λx=>R) (λx=>F) (λx=>x.1<=n/\x.2++XO x.1=XO n) (λx=>x.1) (n,[]) (⟨Gl _,Si⟩) ?_)))))))));rintro⟨m,acc⟩ ⟨hm,he⟩;try dsimp only
 dsimp only at hm he;have hel:=GM List.length he;simp[Gm]at hel;refine cS λ_ k4=>cS λ_ k5=>Qc (Pm (Pa ZP (Qd (k5 (Qi rfl (λhc5=>?_) (λhc5=>?_))))));try simp[dx]at hc5
 refine Qh (k4 (Qp (cS λ_ k7=>Qc (Pm (Pm (Pa (cJ rfl rfl Qu) (Xx 8 rfl (GM (Value.int .i64) (iA m 128)) (Pa Qz (Pa (XE HA HN rfl (by(simp[IntKind.min,IntKind.max,IntKind.signed,IntKind.bits,GP,H3,H7];omega))) (Xx 10 rfl (v':=.int .u8 ((UInt8.ofNat (m%128+128)).toNat:Int)) (by rw[YS _ Om];rfl) (Qv (sz:=1) Qo rfl Ig Lw Kk rfl rfl rfl Dc Dc (λb11=>Pa ((zZ (bs:=[UInt8.ofNat (m%128+128)]) Ig HN GZ rfl Qm)) ?_))))))))))));have hs1:acc.length+[UInt8.ofNat (m%128+128)].length<=9223372036854775807:=by simp;omega
 refine Pa zB (Ps (Qd (k7 (Qc (Pm (Pa (np rfl rfl Qu) ?_))))));refine Xx 15 rfl (v':=.int .i64 ((m/128:Nat):Int)) (by congr 1;rw[show((128:Int))=((128:Nat):Int)from rfl,nV,qX ⟨Om,Om⟩]) (Ps (Qd (ro rfl (rd ((m/128,acc++[UInt8.ofNat (m%128+128)])) (⟨by dsimp only;omega,by dsimp only;rw[<-he,jd (n:=m) (by(try simp at hc5);omega)];simp⟩) (by dsimp only;(try simp at hc5);omega)))));try simp[dx]at hc5
 refine QG (k3 (cS λ_ k8=>Qc (Pm (Pm ?_))));refine Pa (XE HA HN rfl (by(simp[IntKind.min,IntKind.max,IntKind.signed,IntKind.bits,GP,H3,H7];omega))) (Xx 18 rfl (v':=.int .u8 ((UInt8.ofNat m).toNat:Int)) (by rw[YS _ (by(try simp at hc5);omega)]) (Qv (sz:=1) Qo rfl Ig Lw Kk rfl rfl rfl Dc Dc (λb19=>Pa ((zZ (bs:=[UInt8.ofNat m]) Ig HN GZ rfl Qm)) ?_)));have hs1:acc.length+[UInt8.ofNat m].length<=9223372036854775807:=by simp;omega
 refine Pa zB (Ps (Qd (k8 (cE [2] (Qg (r_ ?_))))));refine Es results184 [] ?_;refine⟨?_,rfl,rfl⟩;rw[<-he,YW (n:=m) (by(try simp at hc5);omega)];rfl
def Dj{l:List Nd}{x:Nd}(hx:l[i]?=some x):(YZ (l.take i)).length+(wr x).length<=(YZ l).length:=by
 have key:∀(a b:List Nd),YZ (a++b)=YZ a++YZ b:=by
  intro a b;induction a with
  |nil=>rfl
  |cons y a ih=>rw[HW,YZ,ih,YZ,GA]
 have h1:=key (l.take (i+1)) (l.drop (i+1));rw[HG]at h1;rw[h1,bI hx];simp only[Gm];omega
def xR(N:Nat):∀(x:Nd) (cx:List Value) {R:Hp},SizeOf.sizeOf x<=N->RepN R x cx->OkN x->(wr x).length<=big->QTri prog 179 [.agg ⟨cx⟩] R [] (.string (Qs (wr x))):=by
 induction N using Nat.strongRecOn with
 |_ N ih=>
 intro x cx R hN hx hok hb;obtain⟨k,n,s,l,q,cap,rfl,rfl,hs,hl⟩:=hx.inv;have hlb:l.length<=big:=hl.choose_spec.1;obtain⟨hn,hkids⟩:n<18446744073709551616/\∀y∈l,OkN y:=by cases hok with|mk h1 h2=>exact⟨h1,h2⟩
 have hnl:(XF n).length<=8:=zJ 8 n Om;have hz1:=ZU 5 (XF n).length Om;have hs0:=hs;have hl0:=hlb;have hb0:=hb;unfold big at hs hlb hb;have hz2:=ZU 5 s.length (by simp;omega);have hz3:=ZU 5 l.length (by simp;omega);refine Tri.q (To func179 ntmps179 λ_ F _ r_ _ _=>?_);try simp[cB]
 refine cS λ_ k1=>Qc (Xc Qo rfl rfl rfl (λb1=>Ps (Qd (k1 (cS λ_ k2=>cS λ_ k3=>Qc (Pa (Ga Gq GQ) (Pa (La o3) (Qd (k3 (Qp (cS λ_ k4=>Qc (Pa QL (Ps (Qd (k4 (Qi rfl (λhc8=>?_) (λhc8=>?_)))))))))))))))))
 (try simp[dx]at hc8);subst hc8
 refine cS λ_ k6=>Qc (Pa (Ga Gq Gw) (Pa (La QO) (Pa (Ca call183 (DU n hn)) (Ps (Qd (k6 (cS λ_ k7=>Qc (Pm (Pa (YP GZ) (Pa (Ca call184 (tY (XF n).length (by unfold big;omega))) ?_))))))))));have hq1:[(110:UInt8)].length+(XO (XF n).length).length<=9223372036854775807:=by simp;omega
 have hq2:([(110:UInt8)]++XO (XF n).length).length+(XF n).length<=9223372036854775807:=by simp;omega
 refine Pa zB (Pm (Pa zB (Ps (Qd (k7 (Qg (r_ (Es MK [] ?_))))))));refine⟨?_,rfl,rfl⟩;rw[wr,an rfl];rfl;try simp[dx]at hc8
 refine cS λ_ k8=>Qc (Pa QL (Ps (Qd (k8 (cE [1,19] (Qi rfl (λhc19=>?_) (λhc19=>?_)))))))
 (try simp[dx]at hc19);subst hc19
 refine cS λ_ k10=>dW ?_;have hq1:[(115:UInt8)].length+(XO s.length).length<=9223372036854775807:=by simp;omega
 have hq2:([(115:UInt8)]++XO s.length).length+s.length<=9223372036854775807:=by simp;omega
 refine Qa (Ga Gq Ic) ?_;refine Qa (La o9) (Qa (YP GZ rfl) ?_);refine Qa (Ca call184 (tY s.length hs0)) (Qa (zB rfl rfl Qu) ?_);refine Qa (Ga Gq Ic) ?_;refine Qa (La o9) (Qa (zB rfl rfl Qu) (Qa (Xs rfl) (Xj (k10 (Qg (r_ ?_))))));refine Es MK [] ?_;refine⟨?_,rfl,rfl⟩;rw[wr,ac Dc,an rfl];rfl;try simp[dx]at hc19
 refine Qh (k2 (cS λ_ k11=>Qc (Pa (Ga Gq HP) (Pa (La YY) (Pa (QV Gy) (Pa (Ca call184 (tY l.length hl0)) ?_))))));have hq1:[(108:UInt8)].length+(XO l.length).length<=9223372036854775807:=by simp;omega
 have hwr:wr (.mk k n s l)=([108]++XO l.length)++YZ l:=by rw[wr,ac (by simpa using hc8),ac (by simpa using hc19)];simp
 refine Pa zB (Ps (Qd (k11 (cS λ_ k12=>cS λ_ k13=>Qc (Ps (Qd (k13 (Qp ?_))))))));refine FN 4 rfl (v':=.string (Qs (([108]++XO l.length)++YZ (l.take 0)))) (by simp[YZ]) (Lp (λ(x:Nat)=>[(1,.pointer (some ⟨b1,0,none⟩)),(4,.string (Qs (([108]++XO l.length)++YZ (l.take x)))),(5,.int .i64 (x:Int))]) (λx=>R) (λx=>QA b1 [.int .i64 k,.int .u64 ((n:Nat):Int),.string (Qs s),.slice q l.length cap] 150::F) (λx=>x<=l.length) (λx=>l.length-x) 0 Si ?_);rintro i hI9;try dsimp only
 refine cS λ_ k14=>cS λ_ k15=>Qc (Pm (Pa (Ga Gq HP) (Pa (La YY) (Pa (QV Gy) (Pa QR (Qd (k15 (cE [1,4,5,38] (Qi rfl (λhc38=>?_) (λhc38=>?_))))))))));try simp[dx]at hc38
 refine Qh (k14 (cS λ_ k17=>Qp (Qc ?_)));obtain⟨x1,hx1⟩:∃x,l[i]?=some x:=⟨l[i]'Om,Si⟩;obtain⟨bb,off,cs,rfl,hc4,hrep,hcell⟩:=hl.at hx1;have hm1:=Gv hx1;have hle:=Dj hx1;rw[hwr]at hb;simp[Gm]at hb;have hq3:(([(108:UInt8)]++XO l.length)++YZ (l.take i)).length+(wr x1).length<=9223372036854775807:=by simp[Gm];omega
 refine Pm (Pa (Ga Gq HP) (Pa (La YY) (Pm ?_)));refine Pa (QE Gy HB) (Pa ((Yq QF hc4 rfl (λj u hj=>by simpa using hcell j u hj))) (Pa (Ca call179 (ih (SizeOf.sizeOf x1) (by have:=JE hm1;simp at hN;omega) x1 cs (Gl _) hrep (hkids _ hm1) (by unfold big;omega))) (Pa zB (Xx 48 rfl (v':=.string (Qs (([108]++XO l.length)++YZ (l.take (i+1))))) (by rw[bI hx1,GA]) (Ps (Qd (k17 (Qc (Pm ?_)))))))));refine Pa Qz (Ps (Qd (ro rfl (rd (i+1) Om Om))));try simp[dx]at hc38
 refine QG (k12 (cS λ_ k18=>Qc ?_));rw[Gx Om,<-hwr];exact Pm (Ps (Qd (k18 (Qg (r_ (Es MK [] ⟨rfl,rfl,rfl⟩))))))
def xB(x:Nd)(cx:List Value)(hx:RepN R x cx)(hok:OkN x)(hd:yf x<=big)(hb:(wr x).length<=big):QTri prog 175 [.agg ⟨cx⟩] R [] (.tuple #[.string (Qs (YQ x).1),.bool (YQ x).2]):=by
 obtain⟨k,n,s,l,q,cap,rfl,rfl,hs,hl⟩:=hx.inv;obtain⟨x,hxe⟩:∃x,x=Nd.mk k n s l:=⟨_,rfl⟩;refine Tri.q (To func175 ntmps175 λ_ F _ r_ _ _=>?_);try simp[cB]
 refine cS λ_ k1=>Qc (Xc Qo rfl rfl rfl (λb1=>Ps (Ps (Qd (k1 (cS λ_ k2=>cS λ_ k3=>Qc (Pa (Lb QF) (Pa (Ca call178 (xC _ _ hx hd)) (Pa Xa (Qd (k3 (Qi rfl (λhc7=>?_) (λhc7=>?_)))))))))))))
 (try simp[dx]at hc7);have hr:¬Xu 20 x=true:=by rw[hxe];simpa using hc7
 refine cS λ_ k5=>Qc (Ps (Ps (Qd (k5 (Qg (r_ (Es ML [] ?_)))))));rw[<-hxe,show YQ x=([],false)by unfold YQ;rw[ac (λh=>hr h.1)]];exact⟨rfl,rfl,rfl⟩
 (try simp[dx]at hc7);have hr:Xu 20 x=true:=by rw[hxe];simpa using hc7
 refine Qh (k2 (cS λ_ k6=>Qc (Pa (Lb QF) (Pa (Ca call179 (xR _ _ _ (Gl _) hx hok hb)) (Ps (Qd (k6 (cS λ_ k7=>cS λ_ k8=>Qc ?_))))))));refine Pm (Pa (YP GZ) (Pa XG (Qd (k8 (Qi rfl (λhc12=>?_) (λhc12=>?_))))));try simp[dx]at hc12
 refine cS λ_ k10=>Qc (Ps (Ps (Qd (k10 (Qg (r_ (Es ML [] ?_)))))));rw[<-hxe]at hc12|-;rw[show YQ x=([],false)by unfold YQ;rw[ac (λh=>by have:=h.2;(try simp at hc12);omega)]];exact⟨rfl,rfl,rfl⟩;try simp[dx]at hc12
 refine Qh (k7 (cS λ_ k11=>Qc (Pm (Ps (Ps (Qd (k11 (Qg (r_ (Es ML [] ?_))))))))));rw[<-hxe]at hc12|-;rw[show YQ x=(wr x,true)by unfold YQ;rw[an ⟨hr,by(try simp at hc12);omega⟩]];exact⟨rfl,rfl,rfl⟩
def dj(s:List UInt8)(at_:Nat):Int×Int:=match ZE 4 0 0 (s.drop at_)with
 |some (n,r)=>((n:Int),((s.length-r.length:Nat):Int))
 |none=>(0,-1)
def cT(h:ZE 4 0 0 (s.drop a)=none):dj s a=(0,-1):=by unfold dj;rw[h]
def cR{r:List UInt8}(h:ZE 4 0 0 (s.drop a)=some (n,r)):dj s a=((n:Int),((s.length-r.length:Nat):Int)):=by unfold dj;rw[h]
def Dt{a a' b b':Int}(h1:a=a')(h2:b=b'):Value.tuple #[.int .i64 a,.int .i64 b]=.tuple #[.int .i64 a',.int .i64 b']:=by rw[h1,h2]
def sX(h:i<s.length):∃u,s.drop i=u::s.drop (i+1)/\XY s (i:Int)=(u.toNat:Int):=by
 refine⟨s[i],J8 h,?_⟩;simp[XY,h]
def B2(s:List UInt8)(a:Nat)(hs:s.length<=big)(ha:a<=big+1):QTri prog 180 [.string (Qs s),.int .i64 (a:Int)] R [] (.tuple #[.int .i64 (dj s a).1,.int .i64 (dj s a).2]):=by
 unfold big at hs ha
 refine Tri.q (To func180 ntmps180 λ_ F _ r_ _ _=>?_)
 try simp[cB]
 refine cS λ_ k1=>Qc (Ps (Ps (Qd (k1 (cS λ_ k2=>Qc (Ps (Qd (k2 (cS λ_ k3=>Qc (Ps (Qd (k3 (cS λ_ k4=>cS λ_ k5=>Qc (Pm (Ps (Qd (k5 (Qp (Lp (λ(x:Nat×Nat)=>[(0,.string (Qs s)),(1,.int .i64 (a:Int)),(6,.int .i64 (x.2:Int)),(7,.int .i64 ((128^x.1:Nat):Int)),(8,.int .i64 ((a+x.1:Nat):Int))]) (λx=>R) (λx=>F) (λx=>x.1<=4/\x.2<128^x.1/\ZE 4 0 0 (s.drop a)=ZE (4-x.1) x.1 x.2 (s.drop (a+x.1))/\(x.1>0->a+x.1<=s.length)) (λx=>4-x.1) (0,0) (⟨by simp,by simp,rfl,λh=>by simp at h⟩) ?_)))))))))))))))))))
 rintro⟨j,acc⟩ ⟨hj,hac,hz,hin⟩
 try dsimp only
 dsimp only at hj hac hz hin
 have hp:128^j<=128^4:=JM Om hj
 have hp4:(128:Nat)^4=268435456:=by decide
 refine cS λ_ k6=>cS λ_ k7=>Qc (Pm (Pm (Pa (YP GZ) (Pa QR (Pm (QM 15 rfl (λhg15=>?_) (λhg15=>?_)))))))
 try simp[dx]at hg15
 refine Pb Qf (Pb Qf (Pb Qz (Pb QR (Pa Qq (Qd (k7 (Qi rfl (λhc20=>?_) (λhc20=>?_))))))))
 (try simp[dx]at hc20)
 refine Qh (k6 (cS λ_ k9=>Qp (cS λ_ k10=>Qc ?_)))
 have hlt:a+j<s.length/\j<4:=by(try simp at hc20);(try simp at hg14);omega
 let⟨u,hu1,hu2⟩:=sX hlt.1
 obtain⟨f,hf⟩:∃f,4-j=f+1:=⟨3-j,by omega⟩
 have hul:=u.toNat_lt
 have hm1:u.toNat%128*128^j<=127*128^j:=Hv _ Om
 have hp3:128^j<=128^3:=JM Om Om
 have hp33:(128:Nat)^3=2097152:=by decide
 refine Pm (Pm (Pa (Zg GZ) (Xx 25 rfl (GM (Value.int .u8) hu2) (Pa (XE HN HA rfl (by(simp[IntKind.min,IntKind.max,IntKind.signed,IntKind.bits,GP,H3,H7];omega))) (Ps (Qd (k10 (cE [0,1,6,7,8,9] ?_))))))))
 refine cS λ_ k11=>Qc (Pm (Pm (Pa (cJ rfl rfl Qu) (Xx 29 rfl (GM (Value.int .i64) (iA u.toNat 128)) ?_))))
 refine Pm ?_
 refine Pa (dA rfl rfl Qu) (Xx 31 rfl (v':=.int .i64 ((u.toNat%128*128^j:Nat):Int)) (by first|rfl|(congr 1;rw[Kt])) (Pa Qz (Ps (Qd (k11 (cS λ_ k12=>Qc (Pm ?_)))))))
 refine Pa (dA rfl rfl Qu) (Ps (Qd (k12 (cS λ_ k13=>Qc (Pm (Pa QR (Qd (k13 (Qi rfl (λhc36=>?_) (λhc36=>?_))))))))))
 (try simp[dx]at hc36)
 have hsz:ZE 4 0 0 (s.drop a)=if u.toNat=0/\j>0 then none else some (acc+u.toNat*128^j,s.drop (a+j+1)):=by rw[hz,hf,hu1,ZE,an (by(try simp at hc36);omega)]
 have hum:u.toNat%128=u.toNat:=Jg (by(try simp at hc36);omega)
 refine cS λ_ k15=>cS λ_ k16=>Qc (Pm (Pa QL (Pm (QM 39 rfl (λhg39=>?_) (λhg39=>?_)))))
 try simp[dx]at hg39
 refine Pb Qf (Pb Qf (Pb XG (Pa Qq (Qd (k16 (cE [6,8,43] (Qi rfl (λhc43=>?_) (λhc43=>?_))))))))
 try simp[dx]at hc43
 refine cS λ_ k18=>Qc (Ps (Ps (Qd (k18 (Qg (r_ (Es KS [] ?_)))))))
 refine⟨?_,rfl,rfl⟩;rw[cT (by rw[hsz,an ⟨by(try simp at hg39);omega,by(try simp at hc43);omega⟩])];rfl
 try simp[dx]at hc43
 refine Qh (k15 (cS λ_ k19=>Qc (Pm (Pm ?_))))
 refine Pa Qz (Ps (Ps (Qd (k19 (Qg (r_ (Es KS [] ?_)))))))
 refine⟨?_,rfl,rfl⟩;rw[cR (by rw[hsz,ac (by(try simp at hc43);omega)])];exact Dt (by rw[hum];omega) (by rw[Hh];omega)
 try simp[dx]at hg39
 refine Pk (Pk (Pk (Pa Qn (Qd (k16 (Qt rfl (Qh (k15 (cS λ_ k20=>Qc (Pm (Pm ?_)))))))))))
 refine Pa Qz (Ps (Ps (Qd (k20 (Qg (r_ (Es KS [] ?_)))))))
 refine⟨?_,rfl,rfl⟩;rw[cR (by rw[hsz,ac (by(try simp at hg39);omega)])];exact Dt (by rw[hum];omega) (by rw[Hh];omega)
 try simp[dx]at hc36
 refine Qh (k9 (Qc (Pm ?_)))
 refine Pa Qz (Ps (Qd (ro rfl (rd ((j+1,acc+u.toNat%128*128^j)) (⟨by dsimp only;omega,by dsimp only;rw[In];omega,by dsimp only;rw[hz,hf,hu1,ZE,ac (by(try simp at hc36);omega),show u.toNat%128=u.toNat-128 by(try simp at hc36);omega,HQ,show 4-(j+1)=f by omega],λ_=>by dsimp only;omega⟩) Do))))
 try simp[dx]at hc20
 refine QG (k4 (cE [] (cS λ_ k21=>Qc (Ps (Ps (Qd (k21 (Qg (r_ (Es KS [] ?_))))))))))
 refine⟨?_,rfl,rfl⟩;rw[cT (by rw[hz,show 4-j=0 by(try simp at hc20);omega];rfl)];rfl
 try simp[dx]at hg15
 refine Pk (Pk (Pk (Pk (Pa Qn (Qd (k7 (cE [0,1,6,7,8,20] (Qt rfl (QG (k4 ?_))))))))))
 refine cE [] (cS λ_ k22=>Qc (Ps (Ps (Qd (k22 (Qg (r_ (Es KS [] ?_))))))))
 refine⟨?_,rfl,rfl⟩;rw[cT (by rw[hz,IM (by(try simp at hg15);omega)];cases(4-j)<;>rfl)];rfl
def xr(ha:a<=s.length)(h:¬(dj s a).2<0):∃n f,ZE 4 0 0 (s.drop a)=some (n,s.drop f)/\f<=s.length/\n<268435456/\dj s a=((n:Int),(f:Int)):=by
 cases hz:ZE 4 0 0 (s.drop a)with
 |none=>rw[cT hz]at h;simp at h
 |some p=>
  let⟨n,q⟩:=p;let⟨h1,h2⟩:=DC hz;have hl:=GM List.length h1;simp[Hh,Gm]at hl;have hq:q=s.drop (s.length-q.length):=by
   have e:(s.drop a).drop (XO n).length=q:=by rw[h1];simp
   rw[HL]at e;rw[<-e];congr 1;rw[Hh];omega
  exact⟨n,s.length-q.length,by rw[<-hq],Om,h2,cR hz⟩
def xt(h:(dj s a).2<0):ZE 4 0 0 (s.drop a)=none:=by
 cases hz:ZE 4 0 0 (s.drop a)with
 |none=>rfl
 |some p=>obtain⟨n,q⟩:=p;rw[cR hz]at h;simp at h;omega
def NAt(s:List UInt8)(a d:Nat)(r:Value)(R':Hp):Prop:=∃y cy z,r=.tuple #[.agg ⟨cy⟩,.int .i64 z]/\RepN R' y cy/\
 ((Yy d (s.drop a)=none/\z= -1/\y=yk)\/∃e:Nat,e<=s.length/\z=e/\Yy d (s.drop a)=some (y,s.drop e))
def NAt.none_{d:Nat}{R':Hp}(h:Yy d (s.drop a)=none):NAt s a d (.tuple #[.agg ⟨[.int .i64 0,.int .u64 0,.string (Qs []),.slice none 0 0]⟩,.int .i64 (-1)]) R':=⟨yk,_,-1,rfl,yS R',.inl ⟨h,rfl,rfl⟩⟩
def kX(r:Option (Nd×List UInt8))(s:List UInt8)(f n:Nat)(x:Bool):Prop:=
 (x=true->r=none)/\(x=false->n<=8/\f+n<=s.length/\r=some (.mk 0 (zM ((s.drop f).take n)) [] [],s.drop (f+n)))
def hU(d:Nat):Prop:=∀(s:List UInt8) (a:Nat) {R:Hp},d<=20->s.length<=big->a<=big->
  Tri prog 177 [.string (Qs s),.int .i64 (a:Int),.int .i64 (d:Int)] R [] (λr R' L'=>NAt s a d r R'/\L'=[])
def ou:hU 0:=by
 intro s a R hd hs ha;refine To func177 ntmps177 λ_ F _ r_ _ _=>?_;try simp[cB]
 refine cS λ_ k1=>Qc (QC Qo rfl GK rfl (λb6=>Ps (Qd (k1 (cS λ_ k2=>Qc (Pa (Xh (cells:=[_,_,_,_]) [(0,1),(1,1),(2,1),(3,1)] Gq GK (λ_=>rfl)) (QC Qo rfl GK rfl (λb8=>Qr QF rfl Qo rfl rfl (by(first|(simp[Value.oneCell'];done)|(intro u hu;simp[Gn,Gs,G7]at hu;rcases hu with rfl|rfl|rfl|rfl<;>first|rfl|assumption))) Qm (by(simp)) rfl ?_))))))));refine Qd (k2 (cS λ_ k3=>cS λ_ k4=>Qc (Pm (Pm (Pa (YP GZ) (Pa ZP (Pm (QM 22 rfl (λhg22=>?_) (λhg22=>?_)))))))));try simp[dx]at hg22
 refine Pk (Pk (Pa Qq (Qd (k4 (QD rfl (cS λ_ k5=>Qc (Pa (Lb QF) (Qr QF rfl Qo rfl rfl (by(first|(simp[Value.oneCell'];done)|(intro u hu;simp[Gn,Gs,G7]at hu;rcases hu with rfl|rfl|rfl|rfl<;>first|rfl|assumption))) Qm (by(simp)) rfl ?_))))))));exact Ps (Qd (k5 (Qg (r_ (Ea I4 (.cons (QP QF) (.cons QH .nil)) [] QB ⟨NAt.none_ rfl,rfl⟩)))));try simp[dx]at hg22
 refine Pb Qf (Pb QR (Pa Qn (Qd (k4 (QD rfl (cS λ_ k6=>Qc (Pa (Lb QF) (Qr QF rfl Qo rfl rfl (by(first|(simp[Value.oneCell'];done)|(intro u hu;simp[Gn,Gs,G7]at hu;rcases hu with rfl|rfl|rfl|rfl<;>first|rfl|assumption))) Qm (by(simp)) rfl ?_))))))));exact Ps (Qd (k6 (Qg (r_ (Ea I4 (.cons (QP QF) (.cons QH .nil)) [] QB ⟨NAt.none_ rfl,rfl⟩)))))
def iw{f:Nat}:XY s ((f+i:Nat):Int)=XY (s.drop f) (i:Int):=by
 unfold XY;rw[Hc,Hc,Gt,Gt,HF]
def xQ{e:Nat}{u:UInt8}{t q:List UInt8}(hz:ZE 4 0 0 t=some (n,q))(h1:¬u.toNat=110)(h2:¬u.toNat=115)(h3:¬u.toNat=108):Yy (e+1) (u::t)=none:=by
 have g1:¬u=110:=λh=>by subst h;exact h1 rfl
 have g2:¬u=115:=λh=>by subst h;exact h2 rfl
 have g3:¬u=108:=λh=>by subst h;exact h3 rfl
 rw[Yy,hz];simp[g1,g2,g3]
def rM(h:i<n):XY (s.take n) (i:Int)=XY s (i:Int):=by
 simp[XY,Gt,HS,h]
section
variable{r:Option (Nd×List UInt8)}{s:List UInt8}{f n:Nat}
 (hr:r=(if n>8\/(s.drop f).length<n\/(n>0/\(s.drop f).head?=some 0)then none else some (.mk 0 (zM ((s.drop f).take n)) [] [],(s.drop f).drop n)))
include hr
def Ck(h:n>8):kX r s f n true:=⟨λ_=>by rw[hr,an (.inl h)],λh=>(by cases h)⟩
def Cj(h:s.length<f+n)(hf:f<=s.length):kX r s f n true:=⟨λ_=>by rw[hr,an (.inr (.inl (by rw[Hh];omega)))],λh=>(by cases h)⟩
def Ci(h8:¬n>8)(hl:¬s.length<f+n)(h0:n>0)(hf:f<=s.length):kX r s f n (decide (XY s (f:Int)=0)):=by
 have hk:=mO (t:=s.drop f) (by rw[Hh];omega);rw[show(0:Int)=((0:Nat):Int)from rfl,<-iw,I7]at hk;refine⟨λh=>?_,λh=>⟨Om,Om,?_⟩⟩;.rw[hr,an (.inr (.inr ⟨h0,hk.1 (IY h)⟩))]
 rw[hr,ac,HL];rintro(h1|h1|⟨_,h1⟩);.exact h8 h1
 .rw[Hh]at h1;omega
 exact MQ h (hk.2 h1)
def Cg(h0:n=0)(hf:f<=s.length):kX r s f n false:=by
 refine⟨λh=>(by cases h),λ_=>⟨Om,Om,?_⟩⟩;rw[hr,ac (by rintro(h|h|h)<;>omega),HL]
end
def ov(e:Nat)(ih:hU e):hU (e+1):=by
 intro s a R hd hs ha
 have hs0:=hs
 have ha0:=ha
 unfold big at hs ha
 refine To func177 ntmps177 λσ F _ r_ _ _=>?_
 try simp only[cB]
 refine XN λK1 hK1=>Qc (QC Qo rfl GK rfl (λbo=>Ps (Qd (hK1 _ _ _ (cS λ_ k2=>Qc (Pa (Xh (cells:=[_,_,_,_]) [(0,1),(1,1),(2,1),(3,1)] Gq GK (λ_=>rfl)) (QC Qo rfl GK rfl (λbz=>Qr QF rfl Qo rfl rfl (by(first|(simp[Value.oneCell'];done)|(intro u hu;simp only[Gn,Gs,G7]at hu;rcases hu with rfl|rfl|rfl|rfl<;>first|rfl|assumption))) Qm (by(simp)) rfl ?_))))))))
 refine Qd (k2 (cS λ_ k3=>cS λ_ k4=>Qc (Pm (Pm (Pa (YP GZ) (Pa ZP (Pm (QM 22 rfl (λhg22=>?_) (λhg22=>?_)))))))))
 (try simp only[dx]at hg22)
 refine Pk (Pk (Pa Qq (Qd (k4 (QD rfl (cS λ_ k5=>Qc (Pa (Lb QF) (Qr QF rfl Qo rfl rfl (by(first|(simp[Value.oneCell'];done)|(intro u hu;simp only[Gn,Gs,G7]at hu;rcases hu with rfl|rfl|rfl|rfl<;>first|rfl|assumption))) Qm (by(simp)) rfl ?_))))))))
 refine Ps (Qd (k5 (Qg (r_ (Ea I4 (.cons (QP QF) (.cons QH .nil)) [] (by first|exact Hp.le_refl _|exact Hp.le_trans hr1 hR2) ?_)))))
 exact⟨NAt.none_ (by rw[IM (by(try simp at hg22);omega)];rfl),rfl⟩
 (try simp only[dx]at hg22)
 obtain⟨u,hu1,hu2⟩:=sX (s:=s) (i:=a) (by(try simp at hg22);omega)
 have ha1:a<s.length:=by(try simp at hg22);omega
 refine Pb Qf (Pb QR (Pa Qn (Qd (k4 (Qt rfl (Qh (k3 (cS λ_ k6=>Qc (Pm (Pm ?_))))))))))
 refine Pa Qz (Pa (Ca call180 (B2 s (a+1) hs0 Om)) (Pm (Pa (Ql rfl rfl) (Pa (Ql rfl rfl) (Ps (Ps (Qd (k6 (cE [0,1,2,6,8,9,10] ?_)))))))))
 refine cS λ_ k7=>cS λ_ k8=>Qc (Pm (Pa QR (Qd (k8 (Qi rfl (λhc35=>?_) (λhc35=>?_))))))
 (try simp only[dx]at hc35);have hz:=xt hc35
 refine cS λ_ k10=>Qc (Pa (Lb QF) (Qr QF rfl Qo rfl rfl (by(first|(simp[Value.oneCell'];done)|(intro u hu;simp only[Gn,Gs,G7]at hu;rcases hu with rfl|rfl|rfl|rfl<;>first|rfl|assumption))) Qm (by(simp)) rfl ?_))
 refine Ps (Qd (k10 (Qg (r_ (Ea I4 (.cons (QP QF) (.cons QH .nil)) [] (by first|exact Hp.le_refl _|exact Hp.le_trans hr1 hR2) ?_)))))
 exact⟨NAt.none_ (by rw[hu1,Yy,hz]),rfl⟩
 (try simp only[dx]at hc35);obtain⟨n,f,hz,hf,hn,heq⟩:=xr Om (by omega:¬(dj s (a+1)).2<0)
 rw[heq]
 refine Qh (k7 (cS λ_ k11=>cS λ_ k12=>Qc (Pm (Pm (Pa (Zg GZ) (Xx 39 rfl (GM (Value.int .u8) hu2) (Qd (k12 (Qp (cS λ_ k13=>Qc (Pa QL (Ps (Qd (k13 (Qi rfl (λhc40=>?_) (λhc40=>?_))))))))))))))))
 (try simp only[dx]at hc40);obtain rfl:u=110:=Kq.1 (by simpa using(by omega:u.toNat=110))
 have hrd:Yy (e+1) (s.drop a)=(if n>8\/(s.drop f).length<n\/(n>0/\(s.drop f).head?=some 0)then none else some (.mk 0 (zM ((s.drop f).take n)) [] [],(s.drop f).drop n)):=by rw[hu1,Yy,hz];simp
 refine cS λ_ k15=>XN λK16 hK16=>?_
 have hJ10:∀(x:Bool),kX (Yy (e+1) (s.drop a)) s f n x->EJ ⟨prog,130,σ⟩ K16 [(0,.string (Qs s)),(6,.pointer (some ⟨bo,0,none⟩)),(8,.pointer (some ⟨bz,0,none⟩)),(9,.int .i64 (n:Int)),(10,.int .i64 (f:Int)),(61,.bool x)] R (QA bz [.int .i64 0,.int .u64 0,.string (Qs []),.slice none 0 0] 150::QA bo [.int .i64 0,.int .u64 0,.string (Qs []),.slice none 0 0] 150::F):=by
  rintro x ⟨j1,j2⟩
  try dsimp only
  refine hK16 _ _ _ (Qi rfl (λhc61=>?_) (λhc61=>?_))
  subst hc61
  refine cS λ_ k18=>Qc (Pa (Lb QF) (Qr QF rfl Qo rfl rfl (by(first|(simp[Value.oneCell'];done)|(intro u hu;simp only[Gn,Gs,G7]at hu;rcases hu with rfl|rfl|rfl|rfl<;>first|rfl|assumption))) Qm (by(simp)) rfl ?_))
  refine Ps (Qd (k18 (Qg (r_ (Ea I4 (.cons (QP QF) (.cons QH .nil)) [] (by first|exact Hp.le_refl _|exact Hp.le_trans hr1 hR2) ?_)))))
  exact⟨NAt.none_ (j1 rfl),rfl⟩
  subst hc61
  obtain⟨hn8,hfl,hrs⟩:=j2 rfl
  have htl:((s.drop f).take n).length=n:=by rw[GX,Hh];omega
  refine Qh (k15 (cS λ_ k19=>Qc (Ps (Qd (k19 (cS λ_ k20=>cS λ_ k21=>Qc (Ps (Qd (k21 (Qp (Lp (λ(x:Nat)=>[(0,.string (Qs s)),(6,.pointer (some ⟨bo,0,none⟩)),(9,.int .i64 (n:Int)),(10,.int .i64 (f:Int)),(11,.int .u64 (zM (((s.drop f).take n).take x):Int)),(12,.int .i64 (x:Int))]) (λx=>R) (λx=>QA bo [.int .i64 0,.int .u64 0,.string (Qs []),.slice none 0 0] 150::F) (λx=>x<=n) (λx=>n-x) 0 Si ?_)))))))))))
  rintro i hI13
  try dsimp only
  refine cS λ_ k22=>cS λ_ k23=>Qc (Pm (Pm (Pa QR (Qd (k23 (Qi rfl (λhc65=>?_) (λhc65=>?_)))))))
  try simp only[dx]at hc65
  refine Qh (k22 (cS λ_ k25=>Qp (Qc ?_)))
  have hlt:=nb (t:=(s.drop f).take n) (i:=i) Om Om
  have hbe:=p7 (t:=(s.drop f).take n) (i:=i) Om
  rw[rM Om,<-iw]at hbe
  have h4:=ji s ((f+i:Nat):Int)
  have h5:((f:Int)+(i:Int))=((f+i:Nat):Int):=rfl
  refine Pm ?_
  refine Pa (Df rfl rfl Qu) (Pm (Pm (Pm ?_)))
  refine Pa Qz (Xx 73 rfl (v':=.int .i64 ((f+i:Nat):Int)) rfl (Pa (Zg GZ) (Pa ((XE HN Ib rfl (by simp only[IntKind.min,IntKind.max,IntKind.signed,IntKind.bits,GP,H3];omega))) (Pa Yg (Xx 76 rfl (v':=.int .u64 (zM (((s.drop f).take n).take (i+1)):Int)) (by rw[hbe];congr 1<;>omega) ?_)))))
  refine Ps (Qd (k25 (cE [0,6,9,10,11,12] ?_)))
  refine Qc (Pm ?_)
  refine Pa Qz (Ps (Qd (ro rfl (rd (i+1) Om Om))))
  try simp only[dx]at hc65
  refine QG (k20 (cS λ_ k26=>Qc ?_))
  rw[Gx Om]
  refine Pm (Pa (Xh (cells:=[_,_,_,_]) [(0,1),(1,1),(2,1),(3,1)] Gq GK (λ_=>rfl) rfl rfl) (Pm (Pm ?_)))
  refine Pa Qz (Qr QF rfl Qo rfl rfl (by(first|(simp[Value.oneCell'];done)|(intro u hu;simp only[Gn,Gs,G7]at hu;rcases hu with rfl|rfl|rfl|rfl<;>first|rfl|assumption))) Qm (by(simp)) rfl ?_)
  refine Ps (Qd (k26 (Qg (r_ (Ea I4 (.cons (QP QF) (.cons QH .nil)) [] (by first|exact Hp.le_refl _|exact Hp.le_trans hr1 hR2) ?_)))))
  exact⟨⟨_,_,_,rfl,RepL.node (k:=0) (s:=[]) (by simp[big]) (RepL.nil R),.inr ⟨f+n,hfl,by omega,hrs⟩⟩,rfl⟩
 refine Qc (Pm (Pa XG (Pm (QM 44 rfl (λhg44=>?_) (λhg44=>?_)))))
 (try simp only[dx]at hg44)
 refine Pk (Pk (Pk (Pk (Pk (Pk (Pa Qq (Pm (Pk (Pk (Pk (Xp Zx rfl rfl (Xp Zx rfl rfl (Xp Zx rfl rfl (Xp Zx rfl rfl (Pk (Pa Qq (Qd (Jn hJ10 (true) (Ck hrd (by(try simp at hg44);omega))))))))))))))))))))
 (try simp only[dx]at hg44)
 refine Pb Qf (Pb Qf (Pb Qz (Pb Qf (Pb (YP GZ) (Pb XG (Pa Qn (Pm (QM 52 rfl (λhg52=>?_) (λhg52=>?_)))))))))
 (try simp only[dx]at hg52)
 refine Pk (Pk (Pk (Xp Zx rfl rfl (Xp Zx rfl rfl (Xp Zx rfl rfl (Xp Zx rfl rfl (Pk (Pa Qq (Qd (Jn hJ10 (true) (Cj hrd (by(try simp at hg52);omega) hf)))))))))))
 (try simp only[dx]at hg52)
 have hfn:f+n<=s.length:=by(try simp at hg52);omega
 refine Pb Qf (Pb XG (Pb Qf (QM 55 rfl (λhg55=>?_) (λhg55=>?_))))
 (try simp only[dx]at hg55)
 refine Pb Qf (Pb Qf (Pb (Zg GZ) (Pb QL (Pb Qq (Pa Qn (Qd (Jn hJ10 ((decide (XY s (f:Int)=0))) (Ci hrd (by(try simp at hg44);omega) (by(try simp at hg52);omega) (by(try simp at hg55);omega) hf))))))))
 (try simp only[dx]at hg55)
 refine Pk (Pk (Pk (Pk (Pb Qn (Pa Qn (Qd (Jn hJ10 (false) (Cg hrd (by(try simp at hg55);omega) hf))))))))
 try simp only[dx]at hc40
 refine cS λ_ k27=>Qc (Pa QL (Ps (Qd (k27 (cE [0,2,6,8,9,10,39,82] (Qi rfl (λhc82=>?_) (λhc82=>?_)))))))
 (try simp only[dx]at hc82);obtain rfl:u=115:=Kq.1 (by simpa using(by omega:u.toNat=115))
 have hrd:Yy (e+1) (s.drop a)=(if(s.drop f).length<n then none else some (.mk 1 0 ((s.drop f).take n) [],(s.drop f).drop n)):=by rw[hu1,Yy,hz];simp
 refine cS λ_ k29=>cS λ_ k30=>Qc (Pm (Pm ?_))
 refine Pa Qz (Pm (Pa (YP GZ) (Pa XG (Qd (k30 (Qi rfl (λhc89=>?_) (λhc89=>?_)))))))
 (try simp only[dx]at hc89)
 refine cS λ_ k32=>Qc (Pa (Lb QF) (Qr QF rfl Qo rfl rfl (by(first|(simp[Value.oneCell'];done)|(intro u hu;simp only[Gn,Gs,G7]at hu;rcases hu with rfl|rfl|rfl|rfl<;>first|rfl|assumption))) Qm (by(simp)) rfl ?_))
 exact Ps (Qd (k32 (Qg (r_ (Ea I4 (.cons (QP QF) (.cons QH .nil)) [] (by first|exact Hp.le_refl _|exact Hp.le_trans hr1 hR2) ⟨NAt.none_ (by rw[hrd,an (by rw[Hh];(try simp at hc89);omega)]),rfl⟩)))))
 (try simp only[dx]at hc89)
 refine Qh (k29 (cS λ_ k33=>Qc (Pm (Pm (Pm (Pm ?_))))))
 refine Pa Qz (Pa (md GZ rfl rfl rfl Qu) (Xx 96 rfl (v':=.string (Qs ((s.drop f).take n))) (by rw[show((f:Int)+(n:Int)).toNat-((f:Int)).toNat=n by omega,Hc]) (Pa (Xh (cells:=[_,_,_,_]) [(0,1),(1,1),(2,1),(3,1)] Gq GK (λ_=>rfl)) (Pm (Pm ?_)))))
 refine Pa Qz (Qr QF rfl Qo rfl rfl (by(first|(simp[Value.oneCell'];done)|(intro u hu;simp only[Gn,Gs,G7]at hu;rcases hu with rfl|rfl|rfl|rfl<;>first|rfl|assumption))) Qm (by(simp)) rfl ?_)
 refine Ps (Qd (k33 (cE [6,7] (Qg (r_ (Ea I4 (.cons (QP QF rfl Qm rfl rfl) (.cons (QH rfl) .nil)) [] (by first|exact Hp.le_refl _|exact Hp.le_trans hr1 hR2) ?_))))))
 exact⟨⟨_,_,_,rfl,RepL.node (k:=1) (n:=0) (by unfold big;simp;omega) (RepL.nil R),.inr ⟨f+n,by(try simp at hc89);omega,by omega,by rw[hrd,ac (by rw[Hh];(try simp at hc89);omega),HL]⟩⟩,rfl⟩
 try simp only[dx]at hc82
 refine cS λ_ k34=>Qc (Pa QL (Ps (Qd (k34 (Qi rfl (λhc101=>?_) (λhc101=>?_))))))
 (try simp only[dx]at hc101);obtain rfl:u=108:=Kq.1 (by simpa using(by omega:u.toNat=108))
 have hrd:Yy (e+1) (s.drop a)=(match yO (Yy e) n (s.drop f)with|none=>none|some (l,r')=>some (.mk 2 0 [] l,r')):=by rw[hu1,Yy,hz];simp only;rw[ac Dc,ac Dc,an trivial];rfl
 refine cS λ_ k36=>Qc (Pa (Xh (cells:=[_,_,_,_]) [(0,1),(1,1),(2,1),(3,1)] Gq GK (λ_=>rfl)) (QC Qo rfl GK rfl (λbl=>Qr QF rfl Qo rfl rfl (by(first|(simp[Value.oneCell'];done)|(intro u hu;simp only[Gn,Gs,G7]at hu;rcases hu with rfl|rfl|rfl|rfl<;>first|rfl|assumption))) Qm (by(simp)) rfl ?_)))
 refine Zb (A:=QN 150 4 (.slice none 0 0) 0 []) (Yr _ _) (Qd (k36 (cS λ_ k37=>cS λ_ k38=>Qc (Ps (Qd (k38 (Qp (gF (E':=(λ(x:List Nd×List (List Value)×Value×Nat×Hp)=>[(0,.string (Qs s)),(2,.int .i64 ((e+1:Nat):Int)),(6,.pointer (some ⟨bo,0,none⟩)),(8,.pointer (some ⟨bz,0,none⟩)),(9,.int .i64 (n:Int)),(10,.int .i64 (x.2.2.2.1:Int)),(13,.pointer (some ⟨bl,0,none⟩)),(14,.int .i64 (x.1.length:Int))]) ([],[],.slice none 0 0,f,R)) (eC rfl (eC rfl (eC rfl (eC rfl (eC rfl (eC rfl (eC rfl (Env.le_cons (KF rfl (GM some (by first|rfl|(exact GM (Value.int .i64) Si)))) eN)))))))) (gE (M:=(λ(x:List Nd×List (List Value)×Value×Nat×Hp)=>QN 150 4 x.2.2.1 x.1.length x.2.1.flatten::QA bl [.int .i64 2,.int .u64 0,.string (Qs []),x.2.2.1] 150::QA bz [.int .i64 0,.int .u64 0,.string (Qs []),.slice none 0 0] 150::QA bo [.int .i64 0,.int .u64 0,.string (Qs []),.slice none 0 0] 150::F) ([],[],.slice none 0 0,f,R)) Qw (g7 (λ(x:List Nd×List (List Value)×Value×Nat×Hp)=>[(0,.string (Qs s)),(2,.int .i64 ((e+1:Nat):Int)),(6,.pointer (some ⟨bo,0,none⟩)),(8,.pointer (some ⟨bz,0,none⟩)),(9,.int .i64 (n:Int)),(10,.int .i64 (x.2.2.2.1:Int)),(13,.pointer (some ⟨bl,0,none⟩)),(14,.int .i64 (x.1.length:Int))]) (λ(x:List Nd×List (List Value)×Value×Nat×Hp)=>x.2.2.2.2) (λ(x:List Nd×List (List Value)×Value×Nat×Hp)=>QN 150 4 x.2.2.1 x.1.length x.2.1.flatten::QA bl [.int .i64 2,.int .u64 0,.string (Qs []),x.2.2.1] 150::QA bz [.int .i64 0,.int .u64 0,.string (Qs []),.slice none 0 0] 150::QA bo [.int .i64 0,.int .u64 0,.string (Qs []),.slice none 0 0] 150::F) (λ(x:List Nd×List (List Value)×Value×Nat×Hp)=>R.le x.2.2.2.2/\x.1.length<=n/\Kids x.2.2.2.2 x.1 x.2.1/\x.2.2.2.1<=s.length/\yO (Yy e) n (s.drop f)=(yO (Yy e) (n-x.1.length) (s.drop x.2.2.2.1)).map (λp=>(x.1++p.1,p.2))) (λ(x:List Nd×List (List Value)×Value×Nat×Hp)=>n-x.1.length) ([],[],.slice none 0 0,f,R) (⟨Hp.le_refl R,by simp,⟨rfl,λi x cs h _=>by simp at h⟩,hf,by simp⟩) ?_))))))))))
 rintro⟨ks,css,v,fr,R1⟩ ⟨hr1,hi,hk,hfr,q1⟩
 try dsimp only
 dsimp only at hr1 hi hk hfr q1
 refine cS λ_ k39=>cS λ_ k40=>Qc (Pm (Pm (Pa QR (Qd (k40 (Qi rfl (λhc106=>?_) (λhc106=>?_)))))))
 try simp only[dx]at hc106
 refine Qh (k39 (cS λ_ k42=>Qp (cS λ_ k43=>Qc (Pm (Pm (Pm ?_))))))
 refine Pa Zs (Xx 113 rfl (v':=.int .i64 (e:Int)) (by congr 1;omega) (Ra call177 (ih s fr Om hs0 (by unfold big;omega)) ?_))
 rintro r R2 L' hR2 ⟨⟨y,cy,z,rfl,hy,hcase⟩,rfl⟩
 obtain⟨k1,n1,st1,l1,qq1,cap1,rfl,rfl,hb1,hl1⟩:=hy.inv
 try simp only[cB]
 refine Pm (Pa (Ql rfl rfl) (Pa (Ql rfl rfl) (QC Qo rfl GK rfl (λb15=>?_))))
 refine Qr QF rfl Qo rfl rfl (by(first|(simp[Value.oneCell'];done)|(intro u hu;simp only[Gn,Gs,G7]at hu;rcases hu with rfl|rfl|rfl|rfl<;>first|rfl|assumption))) Qm (by(simp)) rfl ?_
 refine Ps (Qd (k43 (cS λ_ k44=>cS λ_ k45=>Qc ?_)))
 refine Pm (Pa QR (Qd (k45 (Qi rfl (λhc118=>?_) (λhc118=>?_)))))
 (try simp only[dx]at hc118)
 refine cS λ_ k47=>Qc (Pa (Lb QF) (Qr QF rfl Qo rfl rfl (by(first|(simp[Value.oneCell'];done)|(intro u hu;simp only[Gn,Gs,G7]at hu;rcases hu with rfl|rfl|rfl|rfl<;>first|rfl|assumption))) Qm (by(simp)) rfl ?_))
 exact Ps (Qd (k47 (cE [6,7] (Qg (r_ (Ea I4 (.cons (QP QF rfl Qm rfl rfl) (.cons (QH rfl) .nil)) [] (by first|exact Hp.le_refl _|exact Hp.le_trans hr1 hR2) ⟨NAt.none_ (by rcases hcase with h|⟨e2,h1,h2,h3⟩;rw[hrd,oI q1 (m':=n-ks.length-1) (by(try simp at hc106);omega) h.1];(try simp at hc118);omega),rfl⟩))))))
 (try simp only[dx]at hc118)
 obtain⟨e2,he2,rfl,hre⟩:∃e:Nat,e<=s.length/\z=e/\Yy _ (s.drop fr)=some (Nd.mk k1 n1 st1 l1,s.drop e):=by rcases hcase with h|h;(try simp at hc118);omega;exact h
 refine Qh (k44 (cS λ_ k48=>Qc (Pa (Ga Gq HP) (Pa (La YY) (Pa (Lb QF) (Qv (sz:=4) Qo rfl Gy HB GK rfl rfl rfl Dc Dc (λb123=>QZ (sz:=4) (by_:=56) ⟨Gy,_,_,rfl,rfl,rfl,rfl,rfl⟩ Qo rfl rfl rfl Qm (XL Gy Qm (yI hy)) rfl Qu (by simp only[maxLen];omega) (λv124 ho124 hh124=>?_))))))))
 rw[gv css,pi ks (Nd.mk k1 n1 st1 l1)]
 refine Pa (Ga Gq HP) (Sa YY (Qd (k48 (Qc (Pm (Ps (Qd (k42 (Qc (Pm ?_))))))))))
 refine Pa Qz (Ps (Qd ?_))
 refine ro rfl (fe ((ks++[Nd.mk k1 n1 st1 l1],css++[[.int .i64 k1,.int .u64 ((n1:Nat):Int),.string (Qs st1),.slice qq1 l1.length cap1]],v124,e2,R2)) (⟨Hp.le_trans hr1 hR2,by dsimp only;rw[Gm];(try simp at hc106);simp;omega,(hk.mono hR2).snoc hy,he2,by dsimp only;rw[Gm];exact sh q1 (by(try simp at hc106);simp;omega) hre⟩) (by dsimp only;rw[Gm];(try simp at hc106);simp;omega) (eC rfl (eC rfl (eC rfl (eC rfl (eC rfl (eC rfl (eC rfl (Env.le_cons (KF rfl (GM some (by first|rfl|(exact GM (Value.int .i64) Si)))) eN)))))))) rfl Qw)
 try simp only[dx]at hc106
 refine QG (k37 (cS λ_ k49=>Qc (YC (e:=150) (sz:=4) (n:=ks.length) (v:=v) (xs:=css.flatten) Qm (λR2 hR2 hfr2 hxl=>?_))))
 have hkb:ks.length<=big:=by unfold big;omega
 obtain⟨q,cap,rfl,hrl⟩:=(hk.mono hR2).repL hfr2 hkb
 refine Pa (Lb QF) (Pm (Qr QF rfl Qo rfl rfl (by(first|(simp[Value.oneCell'];done)|(intro u hu;simp only[Gn,Gs,G7]at hu;rcases hu with rfl|rfl|rfl|rfl<;>first|rfl|assumption))) Qm (by(simp)) rfl ?_))
 refine Ps (Qd (k49 (Qg (r_ (Ea I4 (.cons (QP QF) (.cons QH .nil)) [] (by first|exact Hp.le_refl _|exact Hp.le_trans hr1 hR2) ?_)))))
 exact⟨⟨.mk 2 0 [] ks,_,_,rfl,hrl.node (by simp[big]),.inr ⟨fr,hfr,rfl,by rw[hrd,q1,show n-ks.length=0 by(try simp at hc106);omega];simp[yO]⟩⟩,rfl⟩
 try simp only[dx]at hc101
 refine Qh (k11 (cS λ_ k50=>Qc (Pa (Lb QF) (Qr QF rfl Qo rfl rfl (by(first|(simp[Value.oneCell'];done)|(intro u hu;simp only[Gn,Gs,G7]at hu;rcases hu with rfl|rfl|rfl|rfl<;>first|rfl|assumption))) Qm (by(simp)) rfl ?_))))
 refine Ps (Qd (k50 (Qg (r_ (Ea I4 (.cons (QP QF) (.cons QH .nil)) [] (by first|exact Hp.le_refl _|exact Hp.le_trans hr1 hR2) ?_)))))
 exact⟨NAt.none_ (by rw[hu1];exact xQ hz Om Om Om),rfl⟩
def vJ(d:Nat):hU d:=by
 induction d with
 |zero=>exact ou
 |succ e ih=>exact ov e ih
def vY{y:Nd}{z:Int}(h:(Yy 20 s=none/\z= -1/\y=yk)\/∃e:Nat,e<=s.length/\z=e/\Yy 20 s=some (y,s.drop e))(hz:¬z=s.length):qK s=(yk,false):=by
 rcases h with⟨h,_,_⟩|⟨e,h1,h2,h3⟩;.exact eJ λ_=>h
 exact km (λ_=>h3) (λhe=>by have:=GM List.length he;simp at this;omega)
def ue{y:Nd}{z:Int}(h:(Yy 20 s=none/\z= -1/\y=yk)\/∃e:Nat,e<=s.length/\z=e/\Yy 20 s=some (y,s.drop e))(hl:¬s.length>16777216)(hz:z=s.length):qK s=(y,true):=by
 rcases h with⟨_,h,_⟩|⟨e,h1,h2,h3⟩;.omega
 have:e=s.length:=by omega
 subst this;exact eI hl (by rw[h3];simp)
def B3(s:List UInt8)(hs:s.length<=big):Tri prog 173 [.string (Qs s)] R []
  (λr R' L'=>∃cy,r=.tuple #[.agg ⟨cy⟩,.bool (qK s).2]/\RepN R' (qK s).1 cy/\L'=[]):=by
 have hbg:s.length<=1000000000000:=hs;refine To func173 ntmps173 λ_ F _ r_ _ _=>?_;try simp[cB]
 refine XN λK1 hK1=>Qc (QC Qo rfl GK rfl (λb2=>Ps (Qd (hK1 _ _ _ (cS λ_ k2=>cS λ_ k3=>Qc (Pm (Pa (YP GZ) (Pa XG (Qd (k3 (Qi rfl (λhc8=>?_) (λhc8=>?_))))))))))));try simp[dx]at hc8
 refine cS λ_ k5=>Qc (Pa (Xh (cells:=[_,_,_,_]) [(0,1),(1,1),(2,1),(3,1)] Gq GK (λ_=>rfl)) (Qr QF rfl Qo rfl rfl (by(first|(simp[Value.oneCell'];done)|(intro u hu;simp[Gn,Gs,G7]at hu;rcases hu with rfl|rfl|rfl|rfl<;>first|rfl|assumption))) Qm (by(simp)) rfl ?_));refine Ps (Qd (k5 (Qg (r_ (Ea MM (.cons (QP QF) (.cons QH .nil)) [] QB ?_)))));rw[eJ (λhl=>Gr (show s.length>16777216 by(try simp at hc8);omega) hl)];exact⟨_,rfl,yS R,rfl⟩;try simp[dx]at hc8
 refine Qh (k2 (cS λ_ k6=>Qc (Pm (Ra call177 (vJ 20 s 0 Dc hs Dc) ?_))));rintro r R' L' hR ⟨⟨y,cy,z,rfl,hy,hcase⟩,rfl⟩;obtain⟨k1,n1,st1,l1,qq1,cap1,rfl,rfl,hb1,hl1⟩:=hy.inv;rw[JC]at hcase;try simp[cB]
 refine Pm (Pa (Ql rfl rfl) (Pa (Ql rfl rfl) (QC Qo rfl GK rfl (λb4=>?_))));refine Qr QF rfl Qo rfl rfl (by(first|(simp[Value.oneCell'];done)|(intro u hu;simp[Gn,Gs,G7]at hu;rcases hu with rfl|rfl|rfl|rfl<;>first|rfl|assumption))) Qm (by(simp)) rfl ?_;refine Ps (Qd (k6 (cS λ_ k7=>cS λ_ k8=>Qc ?_)));refine Pm (Pm (Pa (YP GZ) (Pa Yp (Qd (k8 (Qi rfl (λhc18=>?_) (λhc18=>?_)))))));try simp[dx]at hc18
 refine cS λ_ k10=>Qc (Pa (Xh (cells:=[_,_,_,_]) [(0,1),(1,1),(2,1),(3,1)] Gq GK (λ_=>rfl)) (Qr QF rfl Qo rfl rfl (by(first|(simp[Value.oneCell'];done)|(intro u hu;simp[Gn,Gs,G7]at hu;rcases hu with rfl|rfl|rfl|rfl<;>first|rfl|assumption))) Qm (by(simp)) rfl ?_));refine Ps (Qd (k10 (Qg (r_ (Ea MM (.cons (QP QF) (.cons QH .nil)) [] QB ?_)))));rw[vY hcase (by(try simp at hc18);omega)];exact⟨_,rfl,yS R',rfl⟩;try simp[dx]at hc18
 refine Qh (k7 (cS λ_ k11=>Qc (Pa (Lb QF) (Qr QF rfl Qo rfl rfl (by(first|(simp[Value.oneCell'];done)|(intro u hu;simp[Gn,Gs,G7]at hu;rcases hu with rfl|rfl|rfl|rfl<;>first|rfl|assumption))) Qm (by(simp)) rfl ?_))));refine Ps (Qd (k11 (cE [2,3] (Qg (r_ (Ea MM (.cons (QP QF rfl Qm rfl rfl) (.cons (QH rfl) .nil)) [] QB ?_))))));rw[ue hcase (by(try simp at hc8);omega) (by(try simp at hc18);omega)];exact⟨_,rfl,hy,rfl⟩
def gA(As:List Qj):Qj:=λh=>stars As h
def Yj(l:List (List Qj)):Qj:=gA (l.map gA)
def Ai(h:l[i]?=some As):Find (gA As) (l.map gA) ((l.eraseIdx i).map gA):=by
 induction l generalizing i with
 |nil=>simp at h
 |cons B l ih=>
  cases i with
  |zero=>simp at h;subst h;exact .head _
  |succ i=>exact .tail (ih (by simpa using h))
def Ah(hi:i<l.length)(As:List Qj):Find (gA As) ((l.set i As).map gA) ((l.eraseIdx i).map gA):=by
 induction l generalizing i with
 |nil=>simp at hi
 |cons B l ih=>
  cases i with
  |zero=>exact .head _
  |succ i=>exact .tail (ih (by simpa using hi))
def cF(h:l[i]?=some As)(g:Hp)(k:Yj l g):stars [gA As,Yj (l.eraseIdx i)] g:=by
 let⟨h1,h2,a,b,c,d,e⟩:=(Ai h).stars (h:=g) k;exact⟨h1,h2,a,b,c,d,h2,Hp.emp,Hp.le_refl _,(λ_ _ k=>by cases k),(λ_=>.inr rfl),e,trivial⟩
def C9(hi:i<l.length)(g:Hp)(k:stars [gA As,Yj (l.eraseIdx i)] g):Yj (l.set i As) g:=by
 let⟨h1,h2,a,b,c,d,k1,_,a2,_,_,d2,_⟩:=k;exact(Ah hi As).back ⟨h1,k1,a,Hp.le_trans a2 b,Hp.dis_le c a2,d,d2⟩
section
variable{c:Cx}{ops:Array Oper}{Q:Exit->Act->World->Prop}{E:Env}{R:Hp}{L M:List Qj}{rest:List Oper}{ty:TypeId}{p:String}{af:Array Edge}{g:Option (Nat×Bool)}
def Sat.bigIn{σ:World}(hi:i<l.length)(hS:Sub L (As++Yj (l.eraseIdx i)::M))(hs:Sat σ R L w):Sat σ R (Yj (l.set i As)::M) w:=
 Sat.join (A:=Yj (l.set i As)) (As:=[gA As,Yj (l.eraseIdx i)]) (C9 hi) (Sat.join (A:=gA As) (As:=As) (λ_ k=>k) (hs.sub hS))
def tW{a:Act}{x:Operand}{nm:String}{xs:List Operand}{ts:Array TypeId}{t:TypeId}{r:Value}{vs:List Value}(hx:a.eval x=.iface t v)(hm:∀w,(method (c.P.types.size+Made.depth) t v nm).run c.P w=.ok (f,r) w)(hc:∀args w,(callFunc f args).run c.P w=.ok (.enter f args) w)
  (hv:xs.map a.eval=vs):(execOp a.eval ⟨d,.call {callee:=.invoke x nm,args:=⟨xs⟩,argTypes:=ts},ty,p,af,g⟩).run c.P w=.ok (.enter f ⟨r::vs⟩) w:=by
 have e:(Array.mk xs).map a.eval=⟨vs⟩:=by rw[<-hv];simp
 have e2:(#[Value.iface t v]++(⟨vs⟩:Array Value)).extract 1 (#[Value.iface t v]++(⟨vs⟩:Array Value)).size=⟨vs⟩:=by
  apply J6;simp
 have e3:(#[Value.iface t v]++(⟨vs⟩:Array Value))[0]?=some (.iface t v):=Si;simp[execOp,resolve,hx,e,invoke,Iq,IZ,Result.andThen,e3,e2,callMethod];simp[hm w,hc,Iq,Result.andThen]
def cU{d:Nat}{x:Operand}{nm:String}{xs:List Operand}{ts:Array TypeId}{t:TypeId}{v0 r:Value}{vs:List Value}{post:Value->Hp->List Qj->Prop}{pan:List PanicEntry->Hp->List Qj->Prop}
  (hw:Wn c ops E ⟨some d,.call {callee:=.invoke x nm,args:=⟨xs⟩,argTypes:=ts},ty,p,af,g⟩ true) (hn:Nat.blt d c.n=true) (hx:ev E x=some (.iface t v0)) (hm:∀w,(method (c.P.types.size+Made.depth) t v0 nm).run c.P w=.ok (f,r) w) (hc:∀args w,(callFunc f args).run c.P w=.ok (.enter f args) w)
  (hv:evs E xs=some vs) (ht:Tri c.P f (r::vs) R pre post pan) (hs:Split L pre F)
  (hp:∀ch R' L',R.le R'->pan ch R' L'->EJ c (Q (.panic ch)) E R' (L'++F))
  (h:∀v R' L',R.le R'->post v R' L'->RJ c ops Q rest ((d,v)::E) R' (L'++F)):
  RJ c ops Q (⟨some d,.call {callee:=.invoke x nm,args:=⟨xs⟩,argTypes:=ts},ty,p,af,g⟩::rest) E R L:=by
 intro a w hf hsat;unfold wpList;rw[an (hw a hf)];refine .inl ?_;unfold Oper.wp;rw[tW (hf.ev hx) hm hc (hf.evs hv)];simp[Oper.upon];refine(ht _ _ _ (hs.sat hsat)).mono λe w' ⟨R',L',hR,hw',hpost⟩=>?_;cases e with
 |returned v=>exact h v R' L' hR hpost _ _ (hf.put hn v) hw'
 |panicked ch=>exact hp ch R' L' hR hpost _ _ hf hw'
 |outgrown=>exact hpost.elim
end
def fu(l:List Bs):Nd:=.mk 2 0 [] (l.map qo)
def ZI(l:List Bs):Bs:=wr (fu l)
def ZC(s:Bs):List Bs:=(qK s).1.kids.map Nd.s
def aY(b:Bs)(rs:List Rec)(p:Bs)(g:LG):Prop:=b=Xr rs++p/\yr p/\Plays LG.new rs g
noncomputable def fF(b:Bs):List Rec:=open Classical in if h:∃rs p g,aY b rs p g then h.choose else[]
noncomputable def fG(b:Bs):Bs:=open Classical in if h:∃rs p g,aY b rs p g then h.choose_spec.choose else[]
noncomputable def fH(b:Bs):LG:=open Classical in if h:∃rs p g,aY b rs p g then h.choose_spec.choose_spec.choose else LG.new
def nU{b:Bs}(h:∃rs p g,aY b rs p g):aY b (fF b) (fG b) (fH b):=by
 unfold fF fG fH;rw[dif_pos h,dif_pos h,dif_pos h];exact h.choose_spec.choose_spec.choose_spec
def B7{h:LG}{r':Rec}{t t':Bs}(hr:r.may g)(hg:g.ok)(hl:(wr r.nd).length<=16777216)(hr':r'.may h)(hh:h.ok)(hl':(wr r'.nd).length<=16777216)(e:r.bytes++t=r'.bytes++t'):r.nd=r'.nd/\t=t':=by
 have h1:jK (r.bytes++t)=(wr r.nd).length:=by unfold Rec.bytes;rw[GA];exact g8 Om _
 have h2:jK (r'.bytes++t')=(wr r'.nd).length:=by unfold Rec.bytes;rw[GA];exact g8 Om _
 have h3:(wr r.nd).length=(wr r'.nd).length:=by rw[<-h1,<-h2,e]
 have h4:r.bytes.length=r'.bytes.length:=by unfold Rec.bytes;rw[Gm,Gm,Zh,Zh,h3]
 let⟨h5,h6⟩:=List.append_inj e h4;have h7:wr r.nd=wr r'.nd:=by
  unfold Rec.bytes at h5;exact(List.append_inj h5 (by rw[Zh,Zh])).2
 have h8:=Rec.read hr hg hl;have h9:=Rec.read hr' hh hl';rw[h7,h9]at h8;exact⟨(Prod.mk.inj h8).1.symm,h6⟩
def ya(h:YI a=YI b):a=b:=by unfold YI at h;injection h
def n8{a b:Bs}(h:qo a=qo b):a=b:=by unfold qo at h;injection h
def pK:∀{l m:List Qy},(∀e∈l,QQ e.1)->(∀e∈m,QQ e.1)->l.map qx=m.map qx->l=m
 |[],[],_,_,_=>rfl
 |[],_::_,_,_,h=>by simp at h
 |_::_,[],_,_,h=>by simp at h
 |(a,s)::l,(b,t)::m,hl,hm,h=>by
  simp[Hf,IH]at h;let⟨h1,h2⟩:=h;unfold qx at h1;injection h1 with _ _ _ h3
  simp[IH,MA]at h3;have h4:=ya h3.1;have h5:=n8 h3.2;have h6:=hl (a,s) Si;have h7:=hm (b,t) Si;unfold QQ at h6 h7;dsimp only at h4 h5 h6 h7;have h8:a=b:=Om;rw[h8,h5,pK (λe he=>hl e (by simp[he])) (λe he=>hm e (by simp[he])) h2]
def mH{l m:List Qy}(hl:∀e∈l,QQ e.1)(hm:∀e∈m,QQ e.1)(h:qv l=qv m):l=m:=by
 unfold qv at h;injection h with _ _ _ h2;exact pK hl hm h2
def xP{r':Rec}(hr:r.may g)(hr':r'.may g)(hg:g.ok)(e:r.nd=r'.nd):g.play r=g.play r':=by
 unfold Rec.nd at e;injection e with _ _ _ e
 cases r<;>cases r'<;>simp only[Rec.kids,IH,MA,List.cons_ne_nil,List.nil_eq,reduceCtorEq,and_false]at e;.rename_i t v t' v';let⟨_,e1,e2⟩:=e;have e1:=ya e1;have e2:=ya e2;let⟨a1,a2⟩:=hr;let⟨b1,b2⟩:=hr';unfold QQ at a1 b1;obtain⟨rfl,rfl⟩:t=t'/\v=v':=Om;rfl
 .exact Gr (ya e.1) Dc
 .exact Gr (ya e.1) Dc
 .rename_i b m b' m';let⟨_,e1,e2⟩:=e;have e1:=ya e1;let⟨a1,a2,_⟩:=hr;let⟨b1,b2,_⟩:=hr';have hb:=hg.base;obtain rfl:b=b':=Om;rw[mH (λe he=>(a2 e he).1) (λe he=>(b2 e he).1) e2]
 rename_i h h';let⟨_,e1,e2,e3,e4,e5,e6⟩:=e;have e1:=ya e1;have e2:=ya e2;have e3:=ya e3;have e4:=ya e4;have f5:=n8 e5;have hk:h.ok:=hr;have hk':h'.ok:=hr';have f6:=mH (λe he=>(hk.all e he).1) (λe he=>(hk'.all e he).1) e6;have a1:=hk.term;have a2:=hk.vote;have a3:=hk.base;have a4:=hk.baseT;have b1:=hk'.term;have b2:=hk'.vote;have b3:=hk'.base;have b4:=hk'.baseT;unfold QQ at a1 a4 b1 b4;show({h with down:=g.down}:LG)={h' with down:=g.down};have c1:h.term=h'.term:=Om;have c2:h.vote=h'.vote:=Om;have c3:h.base=h'.base:=Om;have c4:h.baseT=h'.baseT:=Om;rw[c1,c2,c3,c4,f5,f6]
def rY{t:Bs}(hl:(wr r.nd).length<=16777216):¬yr (r.bytes++t):=by
 unfold yr;have h1:jK (r.bytes++t)=(wr r.nd).length:=by unfold Rec.bytes;rw[GA];exact g8 Om _
 have h2:(r.bytes++t).length=4+(wr r.nd).length+t.length:=by unfold Rec.bytes;simp[Zh];omega
 rw[h1,h2];omega
def mB:∀{rs rs':List Rec} {g0 g h:LG} {p p':Bs},Xr rs++p=Xr rs'++p'->yr p->yr p'->Plays g0 rs g->Plays g0 rs' h->Xr rs=Xr rs'/\p=p'/\g=h
 |[],[],g0,g,h,p,p',e,_,_,hg,hh=>by
  cases hg;cases hh
  exact⟨rfl,by simpa[Xr]using e,rfl⟩
 |[],r::rs',g0,g,h,p,p',e,hp,_,_,hh=>by
  cases hh with
  |cons a b c d=>
   rw[qT,GA]at e
   have e:p=r.bytes++(Xr rs'++p'):=by simpa[Xr]using e
   exact Gr (e▸hp) (rY c)
 |r::rs,[],g0,g,h,p,p',e,_,hp,hg,_=>by
  cases hg with
  |cons a b c d=>
   rw[qT,GA]at e
   have e:p'=r.bytes++(Xr rs++p):=by simpa[Xr]using e.symm
   exact Gr (e▸hp) (rY c)
 |r::rs,r'::rs',g0,g,h,p,p',e,hp,hp',hg,hh=>by
  cases hg with
  |cons a b c d=>
   cases hh with
   |cons a' b' c' d'=>
    rw[qT,qT,GA,GA]at e
    let⟨e1,e2⟩:=B7 b a c b' a' c' e
    have e3:wr r.nd=wr r'.nd:=by rw[e1]
    rw[<-xP b b' a e1]at d'
    let⟨k1,k2,k3⟩:=mB e2 hp hp' d d'
    refine⟨?_,k2,k3⟩
    rw[qT,qT,k1]
    unfold Rec.bytes
    rw[e3]
def vq{b:Bs}{rs:List Rec}{p:Bs}(h:aY b rs p g):Xr (fF b)=Xr rs/\fG b=p/\fH b=g:=by
 let⟨a1,a2,a3⟩:=nU ⟨rs,p,g,h⟩;let⟨b1,b2,b3⟩:=h;exact mB (a1.symm.trans b1) a2 b2 a3 b3
structure OC where
 node:Int
 index:Int
 term:Int
 out:Bs
structure MS where
 x:ND
 D:DK
 l:List Bs
 ap:Int
variable{ms:List MS}
structure GS where
 ms:List MS
 st:List Yf
 last:Int
 out:List OC
variable{G:GS}
def d8(k:Nat):Bs:=[UInt8.ofNat (k/256%256),UInt8.ofNat (k%256)]
def MS.todo(m:MS):List Qy:=(m.x.g.all.drop (m.ap-m.x.g.base).toNat).take (m.x.commit-m.ap).toNat
def MS.rest(m:MS):MS:=if m.x.g.base>m.ap then{m with l:=ZC m.x.g.state,ap:=m.x.g.base}else m
def Ye(i:Int)(r:MS×List OC)(e:Qy):MS×List OC:=
 if e.2=[]then({r.1 with ap:=r.1.ap+1},r.2)else({r.1 with ap:=r.1.ap+1,l:=r.1.l++[e.2]},r.2++[⟨i,r.1.ap+1,e.1,d8 (r.1.l.length+1)⟩])
def MS.dn(m:MS):Bool:=Xy (m.x,m.D)
def XI(i:Int)(m:MS)(o:List OC):MS×List OC:=if m.dn=true then(m,o)else m.rest.todo.foldl (Ye i) (m.rest,o)
def GS.done(G:GS)(i:Nat)(m:MS)(l:List Msg):GS:=⟨G.ms.set i (XI i m G.out).1,G.st++XD G.last l,G.last+l.length,(XI i m G.out).2⟩
def MS.act(m:MS)(r:List Msg×NS):MS×List Msg:=({m with x:=r.2.1.q,D:=r.2.2},r.1)
def MS.tick(m:MS):MS×List Msg:=m.act (Xw (m.x,m.D) tickN)
def MS.recv(m:MS)(g:Msg):MS×List Msg:=m.act (Xw (m.x,m.D) (λs=>Xz s g))
def MS.prop(m:MS)(c:Bs):(Int×Int)×(MS×List Msg):=(((XX (m.x,m.D) c).1.1,(XX (m.x,m.D) c).1.2.1),m.act ((XX (m.x,m.D) c).1.2.2,(XX (m.x,m.D) c).2))
def MS.comp(m:MS):Int×MS:=((YV (m.x,m.D) m.ap (ZI m.l)).1,{m with x:=(YV (m.x,m.D) m.ap (ZI m.l)).2.1.q,D:=(YV (m.x,m.D) m.ap (ZI m.l)).2.2})
def GS.tick(G:GS)(i:Nat):GS:=match G.ms[i]? with
 |none=>G
 |some m=>G.done i m.tick.1 m.tick.2
def GS.take(G:GS)(k:Int):GS:={G with st:=YO G.st k}
def GS.deliver(G:GS)(k:Int):GS:=
 if Yb G.st k=true then
  if 0<=(XV G.st k).2.to then match G.ms[(XV G.st k).2.to.toNat]? with
   |none=>G.take k
   |some m=>(G.take k).done (XV G.st k).2.to.toNat (m.recv (XV G.st k).2).1 (m.recv (XV G.st k).2).2
  else G.take k
 else G
def GS.propose(G:GS)(i:Nat)(c:Bs):(Int×Int)×GS:=match G.ms[i]? with
 |none=>((0,0),G)
 |some m=>((m.prop c).1,G.done i (m.prop c).2.1 (m.prop c).2.2)
def GS.compact(G:GS)(i:Nat):Int×GS:=match G.ms[i]? with
 |none=>(1,G)
 |some m=>(m.comp.1,{G with ms:=G.ms.set i m.comp.2})
def GS.fuel(G:GS)(i:Nat)(n:Int):GS:=match G.ms[i]? with
 |none=>G
 |some m=>{G with ms:=G.ms.set i {m with D:=m.D.setFuel n}}
def Zt(i n:Nat)(g:LG)(D:DK):MS:=if g.base>0 then⟨ND.start i n g,D,ZC g.state,g.base⟩else⟨ND.start i n g,D,[],0⟩
noncomputable def MS.crash(m:MS)(i n:Nat)(keep:Int):MS:=Zt i n (fH (m.D.crash keep).b) ((m.D.crash keep).open (fF (m.D.crash keep).b) (fG (m.D.crash keep).b)).2
noncomputable def GS.crash(G:GS)(i:Nat)(keep:Int):GS:=match G.ms[i]? with
 |none=>G
 |some m=>{G with ms:=G.ms.set i (m.crash i G.ms.length keep)}
def GS.new(n:Nat):GS:=⟨(List.range n).map λi=>Zt i n LG.new DK.new,[],0,[]⟩
structure MW (m:MS):Prop where
 up:¬m.dn=true->NIn 0 m.x
 out:m.x.out=[]
 ok:m.D.ok 690000000
 l:m.l.length<=9500/\∀s∈m.l,s.length<=100
 ap:0<=m.ap/\m.ap<=150000000000000
structure GW (G:GS):Prop where
 n:G.ms.length<=9
 ms:∀m∈G.ms,MW m
 st:G.st.length<=900000
 last:0<=G.last/\G.last<=900000
 msg:∀x∈G.st,MIm 0 x.2/\zE x.2
 out:G.out.length<=900000000
def jM(l:List Bs):List Value:=l.map λs=>Value.string (Qs s)
def p6(l:List Bs)(s:Bs):jM l++[Value.string (Qs s)]=jM (l++[s]):=by simp[jM]
@[reducible] def jD (b : Nat) (v : Value) : Qj := QA b [v] 105
@[reducible] def Zk (v : Value) (l : List Bs) : Qj := QN 9 1 v l.length (jM l)
def F7(n:Nat):IntKind.u8.wrap ((n:Int).fdiv (2^min (8:Int).toNat IntKind.i64.bits))=((UInt8.ofNat (n/256%256)).toNat:Int)/\IntKind.u8.wrap (n:Int)=((UInt8.ofNat (n%256)).toNat:Int):=by
 refine⟨?_,?_⟩;.rw[zm n 8 8 rfl Dc,ek]
 rw[ek]
def Dd(b:Nat)(v:Value)(l:List Bs)(c:Bs)(hl:l.length<=200000):Tri prog 170 [.pointer (some ⟨b,0,none⟩),.string (Qs c)] R [jD b v,Zk v l]
  (λr R' L'=>R=R'/\r=.string (Qs (d8 (l.length+1)))/\∃v',L'=[jD b v',Zk v' (l++[c])]):=by
 let⟨g1,g2⟩:=F7 (l.length+1);refine To func170 ntmps170 λ_ F _ r_ _ _=>?_;try simp only[cB]
 refine cS λ_ k1=>Qc (Ps (Qd (k1 (cS λ_ k2=>Qc (Pm (Pm (Pa Qe (Pa (Ga IQ Jl) ?_))))))));refine Pa (La fx) (Pm (Qv (sz:=1) Qo rfl HJ Ic MJ rfl rfl rfl Dc Dc (λbz=>QZ (sz:=1) (by_:=16) ⟨HJ,_,_,rfl,rfl,rfl,rfl,rfl⟩ Qo rfl rfl rfl Qm (XL (xs:=[.string (Qs c)]) HJ Qm (by(first|(simp[Value.oneCell'];done)|(intro u hu;simp only[Gn,Gs,G7]at hu;rcases hu with rfl|rfl|rfl|rfl<;>first|rfl|assumption)))) rfl Qu (by simp only[maxLen];omega) (λv12 ho12 hh12=>?_))));rw[p6];rw[show l.length+1=(l++[c]).length by simp];refine Pa Qe (Pa (Ga IQ Jl) (Sa fx (Qd (k2 (cS λ_ k3=>d9 [0,1,2,3,4,5,6,7,8,9,10,11,12] [] [13,14,15] Kr Kr Kr rfl (Wc rfl Qf (Wc rfl (Qe rfl) ?_)))))));refine Wc rfl (Ga IQ Jl) ?_;refine Wc rfl (La fx) (Wc rfl (Zf HJ rfl Qm) (Wc rfl (aK rfl rfl Dc) ?_));refine Wc rfl (Yld.to (u:=.int .u8 ((UInt8.ofNat ((l.length+1)/256%256)).toNat:Int)) (jl HA HN) (GM (Value.int .u8) (by rw[Gm];exact g1))) (Wc rfl (Qf rfl) (Wc rfl (Qe rfl) ?_));refine Wc rfl (Ga IQ Jl) ?_;refine Wc rfl (La fx) (Wc rfl (Zf HJ rfl Qm) ?_);refine Wc rfl (Yld.to (u:=.int .u8 ((UInt8.ofNat ((l.length+1)%256)).toNat:Int)) (jl HA HN) (GM (Value.int .u8) (by rw[Gm];exact g2))) (Xq (Xt ?_));try simp only[cC]
 refine Qv (sz:=1) Qo rfl Ig Lw Kk rfl rfl rfl Dc Dc (λby2=>XM (A:=QN 5 1 (.slice (some ⟨by2,0,none⟩) 2 2) 2 _) (B:=QN 5 1 (.slice (some ⟨by2,0,none⟩) 2 2) (d8 (l.length+1)).length (XU (d8 (l.length+1)))) Qm (λh hh=>hh) (Pa (zZ Ig HN GZ rfl Qm) (Ps (Qd (k3 (cE [4] ?_))))));exact Qg (r_ (Es results170 [jD b v12,Zk v12 (l++[c])] ⟨rfl,rfl,_,rfl⟩))
def Fd(s:Bs):QTri prog 174 [.string (Qs s)] R [] (.agg ⟨[.int .i64 1,.int .u64 0,.string (Qs s),.slice none 0 0]⟩):=by
 refine Tri.q2 (To func174 ntmps174 λ_ F _ r_ _ _=>?_);try simp[cB]
 refine cS λ_ k1=>Qc (QC Qo rfl GK rfl (λb2=>Qd (k1 (cS λ_ k2=>Qc (Pm (Pa (Xh (cells:=[_,_,_,_]) [(0,1),(1,1),(2,1),(3,1)] Gq GK (λ_=>rfl) rfl rfl) ?_))))));refine Qr QF rfl Qo rfl rfl (by(first|(simp[Value.oneCell'];done)|(intro u hu;simp[Gn,Gs,G7]at hu;rcases hu with rfl|rfl|rfl|rfl<;>first|rfl|assumption))) Qm (by(simp)) rfl ?_;exact Qd (k2 (Qg (r_ (Ea results174 (.cons (QP QF) .nil) [] QB ⟨rfl,rfl⟩))))
def Fe(v:Value)(hv:v.oneCell'=true):QTri prog 176 [v] R [] (.agg ⟨[.int .i64 2,.int .u64 0,.string (Qs []),v]⟩):=by
 refine Tri.q2 (To func176 ntmps176 λ_ F _ r_ _ _=>?_);try simp[cB]
 refine cS λ_ k1=>Qc (QC Qo rfl GK rfl (λb2=>Qd (k1 (cS λ_ k2=>Qc (Pm ?_)))));refine Pa ((Xh (cells:=[.int .i64 2,.int .u64 0,.string (Qs []),v]) [(0,1),(1,1),(2,1),(3,1)] Gq GK (λ_=>rfl) rfl (by cases v<;>first|rfl|(simp[Value.oneCell']at hv)))) ?_;refine Qr QF rfl Qo rfl rfl (by(first|(simp[Value.oneCell'];done)|(intro u hu;simp[Gn,Gs,G7]at hu;rcases hu with rfl|rfl|rfl|rfl<;>first|rfl|assumption))) Qm (by(simp)) rfl ?_;exact Qd (k2 (Qg (r_ (Ea results176 (.cons (QP QF) .nil) [] QB ⟨rfl,rfl⟩))))
@[reducible] def eA (s : Bs) : List Value := [.int .i64 1, .int .u64 0, .string (Qs s), .slice none 0 0]
def BJ(R:Hp){s:Bs}(h:s.length<=1000000):RepN R (qo s) (eA s):=RepL.node (k:=1) (n:=0) (s:=s) (by unfold big;omega) (RepL.nil R)
def vA(R:Hp){l:List Bs}(h:∀s∈l,s.length<=100):Kids R (l.map qo) (l.map eA):=by
 refine⟨Si,λi x cs hx hc=>?_⟩;rw[HD]at hx hc;cases hs:l[i]? with
 |none=>rw[hs]at hx;cases hx
 |some s=>
  rw[hs]at hx hc;cases hx;cases hc;exact BJ R (by have:=h s (Gv hs);omega)
def vB(l:List Bs):OkN (fu l):=.mk Dc (λx hx=>by
 obtain⟨s,_,rfl⟩:=Gu.1 hx;exact r7 s)
def fL(l:List Bs):Xu 20 (fu l)=true:=by
 simp[fu,Xu,List.all_map];simp[qo,Xu,Function.comp_def]
def uK(l:List Bs):yf (fu l)<=20:=by
 have h:=il 20 (fu l);rw[fL]at h;simp at h;exact h.1
def xj{l:List Bs}(h:(wr (fu l)).length<=16777216):YQ (fu l)=(ZI l,true):=by
 unfold YQ;rw[an ⟨fL l,h⟩];rfl
def nJ:∀{l:List Bs},(∀s∈l,s.length<=100)->(YZ (l.map qo)).length<=104*l.length
 |[],_=>by simp[YZ]
 |s::l,h=>by
  have h1:=nL (s:=s) (by have:=h s Si;omega);have h2:=h s Si;have h3:=nJ (l:=l) (λt ht=>h t (by simp[ht]));simp[Hf,YZ,Gm,GD];omega
def bf{l:List Bs}(h:∀s∈l,s.length<=100)(hl:l.length<=100000):(ZI l).length<=10+104*l.length:=by
 have h1:=nJ h;have h2:=ZU 2 (l.map qo).length (by simp;omega);unfold ZI fu;rw[wr,ac Dc,ac Dc];simp only[Gm,GD];omega
def rV{l:List Bs}(h:∀s∈l,s.length<=100)(hl:l.length<=100000):ZC (ZI l)=l:=by
 have h1:=bf h hl;have h2:=oH (x:=fu l) (vB l) (fL l) (by unfold ZI at h1;omega);unfold ZC;rw[show ZI l=wr (fu l)from rfl,h2];show(l.map qo).map Nd.s=l;rw[JX];exact List.map_id _
def vz(l:List Bs){s:Bs}(hs:l[i]?=some s):((l.take i).map eA).flatten++eA s=((l.take (i+1)).map eA).flatten:=by
 rw[HV,hs];simp
def BN(b:Nat)(v:Value)(l:List Bs)(h:∀s∈l,s.length<=100)(hl:l.length<=100000):Tri prog 172 [.pointer (some ⟨b,0,none⟩)] R [jD b v,Zk v l]
  (λr R' L'=>r=.string (Qs (ZI l))/\L'=[jD b v,Zk v l]):=by
 refine To func172 ntmps172 λ_ F _ r_ _ _=>?_
 try simp[cB]
 refine qh (A:=Zk v l) Qm zl (λhvo=>cS λ_ k1=>Qc (Ps (Qd (k1 (cS λ_ k2=>Qc (Ps (Zb (A:=QN 150 4 (.slice none 0 0) 0 []) (Yr _ _) (Qd (k2 (cS λ_ k3=>cS λ_ k4=>Qc (Pm (Pa Qe (Pa (Ga IQ Jl) ?_)))))))))))))
 refine Pa (La fx) (Pa (Zf HJ) (Pm (Qd (k4 (Qp (Lp (λ(x:Nat×Value)=>[(3,x.2),(11,v),(12,.int .i64 (l.length:Int)),(13,.int .i64 (x.1:Int))]) (λx=>R) (λx=>QN 150 4 x.2 x.1 ((l.take x.1).map eA).flatten::jD b v::Zk v l::F) (λx=>x.1<=l.length/\x.2.oneCell'=true) (λx=>l.length-x.1) (0,.slice none 0 0) (⟨Si,rfl⟩) ?_))))))
 rintro⟨i,vk⟩ ⟨hi,hvk⟩
 try dsimp only
 dsimp only at hi hvk
 refine cS λ_ k5=>Qc (Pa QR (Qd (k5 (cS λ_ k6=>Qi rfl (λhc14=>?_) (λhc14=>?_)))))
 try simp[dx]at hc14
 refine Qh (k6 (cS λ_ k8=>Qp (cS λ_ k9=>Qc ?_)))
 have hi2:i<l.length:=by(try simp at hc14);omega
 obtain⟨s,hs⟩:∃s,l[i]?=some s:=⟨_,b7 hi2⟩
 have hsl:=h s (Gv hs)
 have hnth:ZO (jM l) ((i:Int).toNat*1+0)=some (.string (Qs s)):=by rw[Hc,qr];simp[jM,hs]
 refine Pa ((Xn (sz:=1) (n:=l.length) HJ Ic)) (Pa ((XC o9 rfl Qm hnth)) (Ps (Qd (k9 (Qc (Pm (Pm (Pa (Ca call174 (Fd s)) (Qv (sz:=4) Qo rfl Gy HB GK rfl rfl rfl Dc Dc (λbz=>QZ (sz:=4) (by_:=56) ⟨Gy,_,_,rfl,rfl,rfl,rfl,rfl⟩ Qo rfl rfl rfl Qm (XL (xs:=eA s) Gy Qm (by unfold eA;(first|(simp[Value.oneCell'];done)|(intro u hu;simp[Gn,Gs,G7]at hu;rcases hu with rfl|rfl|rfl|rfl<;>first|rfl|assumption)))) rfl Qu (by simp[maxLen];omega) (λv21 ho21 hh21=>?_)))))))))))
 rw[vz l hs]
 refine Ps (Qd (k8 (Qc (Pa Qz (Pm (Qd (ro rfl (rd ((i+1,v21)) (⟨by dsimp only;omega,by assumption⟩) Do))))))))
 try simp[dx]at hc14
 refine QG (k3 (cE [3] (cS λ_ k10=>Qc ?_)))
 obtain rfl:i=l.length:=by(try simp at hc14);omega
 rw[Gx (Gl _)]
 refine Pm (YC (e:=150) (sz:=4) (n:=l.length) (v:=vk) (xs:=(l.map eA).flatten) Qm (λR2 hR2 hfr hxl=>?_))
 obtain⟨q,cap,rfl,hrl⟩:=((vA R h).mono hR2).repL (by simpa using hfr) (by unfold big;simp;omega)
 refine Pa (Ca call176 (Fe _ rfl)) (Pa (Ca call175 (xB (fu l) _ (hrl.node (by simp[big])) (vB l) (by have:=uK l;unfold big;omega) (by have:=bf h hl;unfold big;unfold ZI at this;omega))) (Pm (Pa (Ql rfl rfl) (Pa (Ql rfl rfl) (Ps (Ps (Qd (k10 (cS λ_ k11=>Qc ?_)))))))))
 refine Pm (Ps (Qd (k11 (Qg (r_ (Er results172 [jD b v,Zk v l] hR2 ?_))))))
 rw[xj (by have:=bf h hl;unfold ZI at this;omega)];exact⟨rfl,rfl⟩
def mJ(ks:List Nd){y:Nd}(hy:ks[i]?=some y):(ks.take i).map Nd.s++[y.s]=(ks.take (i+1)).map Nd.s:=by
 rw[HV,hy];simp
def my(b:Nat)(v:Value)(l:List Bs)(s:Bs)(hs:s.length<=16777216):Tri prog 171 [.pointer (some ⟨b,0,none⟩),.string (Qs s)] R [jD b v,Zk v l]
  (λr R' L'=>r=.bool (qK s).2/\∃v',L'=[jD b v',Zk v' (ZC s)]):=by
 obtain⟨Y,hY⟩:∃Y,Y=(qK s).1:=⟨_,rfl⟩
 refine To func171 ntmps171 λ_ F _ r_ _ _=>?_
 try simp only[cB]
 refine XN λK1 hK1=>Qc (Ps (Qd (hK1 _ _ _ (cS λ_ k2=>Qc (Pm (Ra call173 (B3 s (by unfold big;omega)) ?_))))))
 rintro r R1 L' hR1 ⟨cy,rfl,hy,rfl⟩
 rw[<-hY]at hy
 obtain⟨k1,n1,s1,l1,q1,cap1,hx1,rfl,hb1,hl1⟩:=hy.inv
 have hlb:l1.length<=big:=hl1.choose_spec.1
 unfold big at hlb
 have hun:ZC s=l1.map Nd.s:=by unfold ZC;rw[<-hY,hx1];rfl
 try simp only[cB]
 refine Pm (Pa (Ql rfl rfl) (Pa (Ql rfl rfl) (QC Qo rfl GK rfl (λbn=>Qr QF rfl Qo rfl rfl (yI hy) Qm (by exact Gl 4) rfl ?_))))
 refine Ps (Qd (k2 (cS λ_ k3=>Qc (Pm (Pa Qe (Pa (Ga IQ Jl) ?_))))))
 refine Sa fx (Zb (A:=Zk (.slice none 0 0) []) (Yr _ _) (Qd (k3 (cS λ_ k4=>cS λ_ k5=>Qc (Pa (Ga Gq HP) ?_)))))
 refine Pa (La YY) (Pa (QV Gy) (Pm (Qd (k5 (Qp (Lp (λ(x:Nat×Value)=>[(0,.pointer (some ⟨b,0,none⟩)),(6,.bool (qK s).2),(18,.slice q1 l1.length cap1),(19,.int .i64 (l1.length:Int)),(20,.int .i64 (x.1:Int))]) (λx=>R1) (λx=>jD b x.2::Zk x.2 ((l1.take x.1).map Nd.s)::F) (λx=>x.1<=l1.length/\x.2.oneCell'=true) (λx=>l1.length-x.1) (0,.slice none 0 0) (⟨Si,rfl⟩) ?_))))))
 rintro⟨i,vk⟩ ⟨hi,hvk⟩
 try dsimp only
 dsimp only at hi hvk
 refine cS λ_ k6=>Qc (Pa QR (Qd (k6 (cS λ_ k7=>Qi rfl (λhc21=>?_) (λhc21=>?_)))))
 try simp only[dx]at hc21
 refine Qh (k7 (cS λ_ k9=>Qp (cS λ_ k10=>Qc ?_)))
 have hi2:i<l1.length:=by(try simp at hc21);omega
 obtain⟨y,hy2⟩:∃x,l1[i]?=some x:=⟨_,b7 hi2⟩
 obtain⟨bb,off,cs,rfl,hc4,hrep,hcell⟩:=hl1.at hy2
 obtain⟨ky,ny,sy,ly,qy,capy,rfl,rfl,hby,_⟩:=hrep.inv
 have hml:((l1.take i).map Nd.s).length=i:=by rw[H8,GX];omega
 refine Pa (QE Gy HB) (Pa ((Yq QF hc4 rfl (λj u hj=>by simpa using hcell j u hj))) (QC Qo rfl GK rfl (λb8=>Qr QF rfl Qo rfl rfl (yI hrep) Qm (by exact Gl 4) rfl (Qd (k10 (mG (L:=[jD b vk,QA b8 [.int .i64 ky,.int .u64 ((ny:Nat):Int),.string (Qs sy),.slice qy ly.length capy] 150]) [0,1,2,3,4,5,6] [7,8] [9,10,11] (Wc rfl Qf (Wc rfl (Qf rfl) (Wc rfl (Qe rfl) ?_)))))))))
 refine Wc rfl (Ga IQ Jl) ?_
 refine Wc rfl (La fx) ?_
 refine Wc rfl (Ga Gq Ic) ?_
 refine Wc rfl (La o9) (Xq (QT rfl ?_))
 try simp only[cC]
 refine Qv (sz:=1) Qo rfl HJ Ic MJ rfl rfl rfl Dc Dc (λbz=>QU QB Qw (QT rfl ?_))
 try simp only[cC]
 refine QZ (sz:=1) (by_:=16) ⟨HJ,_,_,rfl,rfl,rfl,rfl,rfl⟩ Qo rfl rfl rfl Qm (XL (xs:=[.string (Qs sy)]) HJ Qm (by(first|(simp[Value.oneCell'];done)|(intro u hu;simp only[Gn,Gs,G7]at hu;rcases hu with rfl|rfl|rfl|rfl<;>first|rfl|assumption)))) rfl Qu (by simp only[maxLen];omega) (λv32 ho32 hh32=>?_)
 rw[p6,show(l1.take i).map Nd.s++[sy]=(l1.take (i+1)).map Nd.s from mJ l1 hy2]
 rw[show((l1.take i).map Nd.s).length+1=((l1.take (i+1)).map Nd.s).length by rw[<-mJ l1 hy2];simp]
 refine QU QB Qw (Xt ?_)
 try simp only[cC]
 refine Pa Qe (Pa (Ga IQ Jl) (Sa fx (Qd (k9 (cE [0,6,18,19,20] (Qc ?_))))))
 refine Pa Qz (Pm (Qd (ro rfl (rd ((i+1,v32)) (⟨by dsimp only;omega,by assumption⟩) Do))))
 try simp only[dx]at hc21
 refine QG (k4 (cS λ_ k11=>Qc ?_))
 obtain rfl:i=l1.length:=by(try simp at hc21);omega
 rw[Gx (Gl _),<-hun]
 exact Pm (Ps (Qd (k11 (Qg (r_ (Er results171 [jD b vk,Zk vk (ZC s)] hR1 ⟨rfl,vk,rfl⟩))))))
def gK(A:Qj):∀(L F:List Qj),Sub (A::(L++F)) (L++A::F)
 |[],F=>.refl _
 |B::L,F=>zP (.tail (.head _)) (gK A L F)
def QTri.eq3{P:Program}{v':Value}(h:QTri P f args R L v)(e:v=v'):QTri P f args R L v':=e▸h
def QTri.big{P:Program}(hi:l[i]?=some As)(h:QTri P f args R (As++L) v):QTri P f args R (Yj l::L) v:=λσ F w hs=>by
 have h1:Sat σ R (As++Yj (l.eraseIdx i)::(L++F)) w:=Sat.split (A:=gA As) (λ_ k=>k) (Sat.split (A:=Yj l) (As:=[gA As,Yj (l.eraseIdx i)]) (cF hi) hs);have h2:Sat σ R ((As++L)++Yj (l.eraseIdx i)::F) w:=by rw[GA];exact h1.sub (dG As (gK _ L F))
 refine(h σ _ w h2).mono λe w' ⟨he,hw⟩=>⟨he,?_⟩;have h3:Sat σ R (As++Yj (l.eraseIdx i)::(L++F)) w':=by rw[GA]at hw;exact hw.sub (dG As (dH _ L F))
 have h4:=h3.bigIn (l:=l) (i:=i) (As:=As) (M:=L++F) (Gj.1 hi).1 (.refl _);rw[show l.set i As=l from by apply Ir;intro j;rw[IF];split<;>first|rfl|(rename_i h;subst h;rw[an (Gj.1 hi).1,hi])]at h4;exact h4
def Tri.big{P:Program}{post:Value->Hp->List Qj->List Qj->Prop}(hi:l[i]?=some As)
  (h:Tri P f args R (As++L) (λr R' L'=>∃As' L1,post r R' As' L1/\L'=As'++L1)):Tri P f args R (Yj l::L) (λr R' L'=>∃As' L1,post r R' As' L1/\L'=Yj (l.set i As')::L1):=λσ F w hs=>by
 have h1:Sat σ R (As++Yj (l.eraseIdx i)::(L++F)) w:=Sat.split (A:=gA As) (λ_ k=>k) (Sat.split (A:=Yj l) (As:=[gA As,Yj (l.eraseIdx i)]) (cF hi) hs);have h2:Sat σ R ((As++L)++Yj (l.eraseIdx i)::F) w:=by rw[GA];exact h1.sub (dG As (gK _ L F))
 refine(h σ _ w h2).mono λe w' ⟨R',L',hR,hw,hp⟩=>?_;cases e with
 |panicked ch=>exact hp.elim
 |outgrown=>exact hp.elim
 |returned v=>
  obtain⟨As',L1,hpost,rfl⟩:=hp;have h3:Sat σ R' (As'++Yj (l.eraseIdx i)::(L1++F)) w':=by rw[GA]at hw;exact hw.sub (dG As' (dH _ L1 F))
  exact⟨R',Yj (l.set i As')::L1,hR,h3.bigIn (l:=l) (i:=i) (As:=As') (M:=L1++F) (Gj.1 hi).1 (.refl _),As',L1,hpost,rfl⟩
def sW{c:Cx}{q:Act->World->Prop}{A:Qj}{p:Prop}(f:Find A L M)(k:∀h,A h->p)(h:p->EJ c q E R L):EJ c q E R L:=λa w hf hs=>h (Sat.pure k (hs.find f)) a w hf hs
structure MV where
 m:Nat
 b:NB
 l:Nat
 v:NV
 vl:Value
variable{cs:List MV}{c:MV}
structure GV where
 g:Nat
 va:Value
 n:Nat
 vn:Value
 css:List (List Value)
 vo:Value
 cs:List MV
@[reducible] def A7 (l : Nat) : Value := .iface 103 (.pointer (some ⟨l, 0, none⟩))
@[reducible] def gk (c : MV) (ap : Int) : Qj := QA c.m [.pointer (some ⟨c.b.d, 0, none⟩), .pointer (some ⟨c.b.x, 0, none⟩), A7 c.l, .int .u64 ap] 87
@[reducible] def Yi (c : MV) (m : MS) : List Qj := gk c m.ap :: jD c.l c.vl :: Zk c.vl m.l :: Yw c.b c.v m.x m.D
def Zw(cs:List MV)(ms:List MS):List (List Qj):=List.zipWith Yi cs ms
def yK{m:MS}(hc:cs[i]?=some c)(hm:ms[i]?=some m):(Zw cs ms)[i]?=some (Yi c m):=by
 unfold Zw;rw[Kx,hc,hm]
def y9{m:MS}:(Zw cs ms).set i (Yi c m)=Zw (cs.set i c) (ms.set i m):=by
 unfold Zw;apply Ir;intro j;rw[IF,Kx,Kx,IF,IF];by_cases h:i=j
 .subst h;rw[an rfl,an rfl,an rfl];rw[List.length_zipWith];by_cases h1:i<cs.length
  .by_cases h2:i<ms.length;.rw[an Om,an h1,an h2]
   rw[ac Om,an h1,ac h2]
  rw[ac Om,ac h1]
 rw[ac h,ac h,ac h]
def yt(cs:List MV):List Value:=cs.map λc=>Value.pointer (some ⟨c.m,0,none⟩)
@[reducible] def FX : Value := .func (.func 20) ⟨[]⟩ ⟨[]⟩
@[reducible] def Zv (w : GV) : Qj := QA w.g [w.va, FX, .pointer (some ⟨w.n, 0, none⟩), w.vo] 90
@[reducible] def Zl (w : GV) : Qj := QN 81 1 w.va w.cs.length (yt w.cs)
def gf(o:OC):List Value:=[.int .i64 o.node,.int .u64 o.index,.int .u64 o.term,.string (Qs o.out)]
def sn(l:List OC):List Value:=(l.map gf).flatten
@[reducible] def cZ (vo : Value) (l : List OC) : Qj := QN 41 4 vo l.length (sn l)
@[reducible] def yR (w : GV) (G : GS) : List Qj := [Zv w, Zl w, YT w.n w.vn G.last, YL w.vn G.st w.css, cZ w.vo G.out]
@[reducible] def YN (w : GV) (G : GS) : List Qj := Yj (Zw w.cs G.ms) :: yR w G
structure GOk (R:Hp) (w:GV) (G:GS):Prop where
 len:w.cs.length=G.ms.length
 nd:∀(i:Nat) (c:MV) (m:MS),w.cs[i]?=some c->G.ms[i]?=some m->NOk R c.v m.x
 els:Els oneE R G.st w.css
def GOk.mono{R R':Hp}(hR:R.le R'){w:GV}{G:GS}(h:GOk R w G):GOk R' w G:=⟨h.len,λi c m hc hm=>(h.nd i c m hc hm).mono hR,h.els.mono hR⟩
def GOk.at{w:GV}(h:GOk R w G){m:MS}(hm:G.ms[i]?=some m):∃c,w.cs[i]?=some c/\NOk R c.v m.x/\(Zw w.cs G.ms)[i]?=some (Yi c m):=by
 have hi:=(Gj.1 hm).1;have hc:w.cs[i]?=some (w.cs[i]'(by rw[h.len];exact hi)):=b7 _;exact⟨_,hc,h.nd i _ m hc hm,yK hc hm⟩
def ah(cs:List MV)(i:Int):Value:=if 0<=i then(match cs[i.toNat]? with|some c=>.pointer (some ⟨c.m,0,none⟩)|none=>.pointer none)else .pointer none
def ZQ(h:cs[i]?=some c):ah cs (i:Int)=.pointer (some ⟨c.m,0,none⟩):=by unfold ah;rw[an Om,Hc,h]
def ju{i:Int}(h:i<0\/(cs.length:Int)<=i):ah cs i=.pointer none:=by
 unfold ah;by_cases h0:0<=i;.rw[an h0,Ho Om]
 rw[ac h0]
def ze(w:GV)(i:Int):QTri prog 33 [.pointer (some ⟨w.g,0,none⟩),.int .i64 i] R [Zv w,Zl w] (ah w.cs i):=by
 refine Tri.q (To func33 ntmps33 λ_ F _ r_ _ _=>?_)
 try simp[cB]
 refine cS λ_ k1=>Qc (Ps (Qd (k1 (cS λ_ k2=>cS λ_ k3=>Qc (Pm ?_)))))
 refine Pa (Yv Km) (Pm (Pb Qf (Pb QR (Pa Qn (Pm (QM 11 rfl (λhg11=>?_) (λhg11=>?_)))))))
 try simp[dx]at hg11
 refine Pk (Pk (Pk (Pk (Pk (Pk (Pk (Pa Qq (Qd (k3 (QD rfl (cS λ_ k4=>Qc (Ps (Qd (k4 (Qg (r_ (Es results33 [Zv w,Zl w] ?_)))))))))))))))))
 rw[ju (.inl (by(try simp at hg11);omega))];exact⟨rfl,rfl,rfl⟩
 try simp[dx]at hg11
 refine Pb Qf (Pb Qf (Pb Qe (Pb (Ga Ii Kz) (Pb (La oO) (Pb (Zf Jd) (Pb ZP (Pa Qn (Qd (k3 (cE [0,1,19] (Qi rfl (λhc19=>?_) (λhc19=>?_))))))))))))
 try simp[dx]at hc19
 refine cS λ_ k6=>Qc (Ps (Qd (k6 (Qg (r_ (Es results33 [Zv w,Zl w] ?_))))))
 rw[ju (.inr (by(try simp at hc19);omega))];exact⟨rfl,rfl,rfl⟩
 try simp[dx]at hc19
 refine Qh (k2 (cS λ_ k7=>Qc ?_))
 obtain⟨i,rfl⟩:=Hu (show 0<=i by(try simp at hg11);omega)
 have hi2:i<w.cs.length:=by(try simp at hc19);omega
 obtain⟨c,hc⟩:∃c,w.cs[i]?=some c:=⟨_,b7 hi2⟩
 have hnth:ZO (yt w.cs) ((i:Int).toNat*1+0)=some (.pointer (some ⟨c.m,0,none⟩)):=by rw[Hc,qr];simp[yt,hc]
 refine Pm (Pa Qe (Pa (Ga Ii Kz) ?_))
 refine Pa (La oO) (Pm (Pa ((Xn (sz:=1) (n:=w.cs.length) Jd Mx)) (Pa ((XC Ed rfl Qm hnth)) (Ps (Qd (k7 (Qg (r_ (Es results33 [Zv w,Zl w] ?_)))))))))
 rw[ZQ hc];exact⟨rfl,rfl,rfl⟩
def Aa(w:GV)(c:MV)(m:MS)(i:Nat)(hc:w.cs[i]?=some c):QTri prog 22 [.pointer (some ⟨w.g,0,none⟩),.int .i64 (i:Int)] R (Yi c m++[Zv w,Zl w]) (.pointer (some ⟨c.b.x,0,none⟩)):=by
 have ha:=(ze (R:=R) w (i:Int)).eq3 (ZQ hc);refine Tri.q (To func22 ntmps22 λ_ F _ r_ _ _=>?_);try simp[cB]
 refine cS λ_ k1=>Qc (Ps (Qd (k1 (cS λ_ k2=>cS λ_ k3=>Qc (Pm (Pm (Pa (Ca Kp (ha)) (Ps (Qd (k3 (cS λ_ k4=>Qc ?_)))))))))));refine Pm (Pa (yT IJ) (Qd (k4 (QD rfl (cS λ_ k5=>Qc ?_)))));refine Pm (Pa Qe (Pa (Ga Hq JK) ?_));exact Pa (La XH) (Ps (Qd (k5 (Qg (r_ (Es results22 (Yi c m++[Zv w,Zl w]) ⟨rfl,rfl,rfl⟩))))))
def rG(w:GV)(c:MV)(m:MS)(i:Nat)(hc:w.cs[i]?=some c):QTri prog 45 [.pointer (some ⟨w.g,0,none⟩),.int .i64 (i:Int)] R (Yi c m++[Zv w,Zl w]) (A7 c.l):=by
 have ha:=(ze (R:=R) w (i:Int)).eq3 (ZQ hc);refine Tri.q (To func45 ntmps45 λ_ F _ r_ _ _=>?_);try simp[cB]
 refine cS λ_ k1=>Qc (Ps (Qd (k1 (cS λ_ k2=>cS λ_ k3=>Qc (Pm (Pm (Pa (Ca Kp (ha)) (Ps (Qd (k3 (cS λ_ k4=>Qc ?_)))))))))));refine Pm (Pa (yT IJ) (Qd (k4 (QD rfl (cS λ_ k5=>Qc ?_)))));refine Pm (Pa Qe (Pa (Ga Hq KW) ?_));exact Pa (La so) (Ps (Qd (k5 (Qg (r_ (Es results45 (Yi c m++[Zv w,Zl w]) ⟨rfl,rfl,rfl⟩))))))
def rI(w:GV)(c:MV)(m:MS)(i:Nat)(hc:w.cs[i]?=some c):QTri prog 18 [.pointer (some ⟨w.g,0,none⟩),.int .i64 (i:Int)] R (Yi c m++[Zv w,Zl w]) (.int .u64 m.ap):=by
 have ha:=(ze (R:=R) w (i:Int)).eq3 (ZQ hc);refine Tri.q (To func18 ntmps18 λ_ F _ r_ _ _=>?_);try simp[cB]
 refine cS λ_ k1=>Qc (Ps (Qd (k1 (cS λ_ k2=>cS λ_ k3=>Qc (Pm (Pm (Pa (Ca Kp (ha)) (Ps (Qd (k3 (cS λ_ k4=>Qc ?_)))))))))));refine Pm (Pa (yT IJ) (Qd (k4 (QD rfl (cS λ_ k5=>Qc ?_)))));refine Pm (Pa Qe (Pa (Ga Hq Gw) ?_));exact Pa (La QO) (Ps (Qd (k5 (Qg (r_ (Es results18 (Yi c m++[Zv w,Zl w]) ⟨rfl,rfl,rfl⟩))))))
def bA(w:GV):QTri prog 28 [.pointer (some ⟨w.g,0,none⟩)] R [Zv w] (.pointer (some ⟨w.n,0,none⟩)):=by
 refine Tri.q (To func28 ntmps28 λ_ F _ r_ _ _=>?_);try simp[cB]
 refine cS λ_ k1=>Qc (Ps (Qd (k1 (cS λ_ k2=>cS λ_ k3=>Qc (Pm (Pa (Yv Km) (Qd (k3 (Qt rfl (Qh (k2 (cS λ_ k4=>Qc (Pm (Pa Qe (Pa (Ga Ii My) ?_)))))))))))))));exact Pa (La A2) (Ps (Qd (k4 (Qg (r_ (Es results28 [Zv w] ⟨rfl,rfl,rfl⟩))))))
def FK(w:GV)(c:MV)(m:MS)(i:Nat)(hc:w.cs[i]?=some c):QTri prog 17 [.pointer (some ⟨w.g,0,none⟩),.int .i64 (i:Int)] R (Yi c m++[Zv w,Zl w]) c.vl:=by
 refine Tri.q (To func17 ntmps17 λ_ F _ r_ _ _=>?_);try simp[cB]
 refine cS λ_ k1=>Qc (Ps (Qd (k1 (cS λ_ k2=>cS λ_ k3=>Qc (Pm (Pm (Pa (Ca call45 (rG w c m i hc)) (Qd (k3 (Qp (cS λ_ k4=>Qc (Pa ((mc (r:=.tuple ⟨[.pointer (some ⟨c.l,0,none⟩),.bool true]⟩) (λw=>Kr) rfl)) (Pa Ql (Pa Ql (Qd (k4 (QD rfl (cS λ_ k5=>Qc (Ps (Qd (k5 (cS λ_ k6=>Qc ?_))))))))))))))))))))));refine Pm (Pa Qe (Pa (Ga IQ Jl) ?_));exact Pa (La fx) (Ps (Qd (k6 (Qg (r_ (Es results17 (Yi c m++[Zv w,Zl w]) ⟨rfl,rfl,rfl⟩))))))
def MS.apply(m:MS)(i:Int)(o:List OC)(k:Nat):MS×List OC:=(m.todo.take k).foldl (Ye i) (m,o)
def EX(i:Int)(r:MS×List OC)(e:Qy):(Ye i r e).1.x=r.1.x/\(Ye i r e).1.D=r.1.D/\(Ye i r e).1.ap=r.1.ap+1/\(Ye i r e).1.l.length<=r.1.l.length+1/\(Ye i r e).2.length<=r.2.length+1:=by
 unfold Ye;split;.exact⟨rfl,rfl,rfl,Si,Si⟩
 exact⟨rfl,rfl,rfl,Si,Si⟩
def g9(i:Int):∀(l:List Qy) (r:MS×List OC),(l.foldl (Ye i) r).1.x=r.1.x/\(l.foldl (Ye i) r).1.D=r.1.D/\(l.foldl (Ye i) r).1.ap=r.1.ap+l.length/\(l.foldl (Ye i) r).1.l.length<=r.1.l.length+l.length/\(l.foldl (Ye i) r).2.length<=r.2.length+l.length
 |[],r=>⟨rfl,rfl,Si,Si,Si⟩
 |e::l,r=>by
  let⟨a1,a2,a3,a4,a5⟩:=EX i r e;let⟨b1,b2,b3,b4,b5⟩:=g9 i l (Ye i r e);rw[It];refine⟨b1.trans a1,b2.trans a2,?_,?_,?_⟩;.rw[b3,a3,GD];omega
  .rw[GD];omega
  rw[GD];omega
def xd(i:Int):∀(l:List Qy) (r:MS×List OC),r.1.l.length<=(l.foldl (Ye i) r).1.l.length
 |[],r=>Gl _
 |e::l,r=>by
  rw[It];refine Hn ?_ (xd i l (Ye i r e));unfold Ye;split;.exact Gl _
  simp
def uQ{m:MS}{i:Int}{o:List OC}{e:Qy}(h:m.todo[k]?=some e):m.apply i o (k+1)=Ye i (m.apply i o k) e:=by
 unfold MS.apply;rw[HV,h];simp
def xc{m:MS}{i:Int}{o:List OC}(h:m.todo.length<=k):m.apply i o k=m.todo.foldl (Ye i) (m,o):=by unfold MS.apply;rw[Gx h]
def BC{m:MS}(h:m.x.g.base<=m.ap)(hk:m.ap+k<m.x.commit):m.x.g.at (m.ap+k+1)=m.todo[k]?:=by
 unfold MS.todo;rw[HS,an Om,HF];rw[show m.ap+(k:Int)+1=m.x.g.base+1+(((m.ap-m.x.g.base).toNat+k:Nat):Int)by omega,LG.at_k]
def nQ{m:MS}:m.todo.length<=(m.x.commit-m.ap).toNat/\m.todo.length<=m.x.g.all.length:=by
 unfold MS.todo;rw[GX,Hh];omega
def bu(m:MS):m.rest.x=m.x/\m.rest.D=m.D/\m.ap<=m.rest.ap/\m.x.g.base<=m.rest.ap:=by
 unfold MS.rest;split;.exact⟨rfl,rfl,by dsimp only;omega,Gk _⟩
 exact⟨rfl,rfl,Gk _,Om⟩
def x6(l:List OC)(o:OC):sn l++gf o=sn (l++[o]):=by simp[sn]
def iX(w:GV)(G:GS)(c:MV)(m:MS)(i:Nat)(ms:List Msg)(vl:Value)(hc:(w.cs[i]?).map MV.m=some c.m)(hms:FrX msgE R ms vl)(hsm:∀x∈ms,zE x)(hel:Els oneE R G.st w.css)(hv:NOk R c.v m.x)
  (hst:G.st.length+ms.length<=1000000) (hla:0<=G.last/\G.last+ms.length<=1000000) (hg:¬m.dn=true->m.x.g.ok/\m.x.commit<=150000000000000/\m.rest.l.length<=100000) (hap:0<=m.ap/\m.ap<=150000000000000) (hout:G.out.length<=1000000000):
  Tri prog 44 [.pointer (some ⟨w.g,0,none⟩),.int .i64 (i:Int),vl] R (Yi c m++yR w G)
   (λr R' L'=>∃vl' vn css vo,Els oneE R' (G.st++XD G.last ms) css/\L'=Yi {c with vl:=vl'} (XI i m G.out).1++yR {w with vn:=vn,css:=css,vo:=vo} {G with st:=G.st++XD G.last ms,last:=G.last+ms.length,out:=(XI i m G.out).2}):=by
 let⟨c0,hc0,hcm⟩:=I6.1 hc;have hi2:i<w.cs.length:=(Gj.1 hc0).1;have hnth:ZO (yt w.cs) ((i:Int).toNat*1+0)=some (.pointer (some ⟨c.m,0,none⟩)):=by rw[Hc,qr];simp[yt,hc0,hcm]
 have hveo:=hms.one;let⟨hrx,hrD,hrap,hrb⟩:=bu m;refine To func44 ntmps44 λσ F _ r_ n_ _=>?_;try simp only[cB]
 refine cS λ_ k1=>Qc (Pm ?_);refine Pa Qe ?_;refine Pa (Ga Ii My) ?_;refine Pa (La A2) (Pm ?_);refine Ra call65 (oT w.n w.vn G.last G.st w.css hel vl ms hms hsm hla hst) ?_;rintro r R2 L' hR2 ⟨vn,css,hels,rfl⟩;have hv2:=hv.mono hR2;try simp only[cB]
 refine Qd (k1 (cS λ_ k2=>Qc (Pm ?_)));refine Pa Qe ?_;refine Pa (Ga Ii Kz) ?_;refine Pa (La oO) (Pm ?_);refine Pa ((Xn (sz:=1) (n:=w.cs.length) Jd Mx)) ?_;refine Pa ((XC Ed rfl Qm hnth)) (Ps (Qd (k2 (cS λ_ k3=>cS λ_ k4=>Qc ?_))));refine Pm ?_;refine Pa Qe ?_;refine Pa (Ga Hq JK) ?_;refine Pa (La XH) ?_;refine Pa (Ca KU (yZ c.b c.v m.x m.D)) (Qd (k4 ?_));refine cE [0,1,6,29] ?_;refine Qi rfl (λhc29=>?_) (λhc29=>?_);have f0:m.dn=true:=hc29;have e0:XI i m G.out=(m,G.out):=by unfold XI;rw[an f0]
 refine Qg (r_ ?_);refine Er results44 (Yi c m++yR {w with vn:=vn,css:=css,vo:=w.vo} {G with st:=G.st++XD G.last ms,last:=G.last+ms.length,out:=G.out}) (by first|exact Hp.le_trans hR2 hR4|exact hR2) ?_;rw[e0];exact⟨c.vl,vn,css,w.vo,hels,rfl⟩;have f0:¬m.dn=true:=by unfold MS.dn;rw[show Xy (m.x,m.D)=false from hc29];decide
 let⟨hgo,hco,hrl⟩:=hg f0;have hgb:=hgo.base;have hgs:=hgo.state;have hga:=hgo.alln;have e0:XI i m G.out=m.rest.todo.foldl (Ye i) (m.rest,G.out):=by unfold XI;rw[ac f0]
 refine Qh (k3 (XN λK6 hK6=>?_));have hJ7:∀(x:Value×MS×Hp),m.rest=x.2.1/\R2.le x.2.2->EJ ⟨prog,116,σ⟩ K6 [(0,.pointer (some ⟨w.g,0,none⟩)),(1,.int .i64 (i:Int)),(6,.pointer (some ⟨c.m,0,none⟩))] x.2.2 (gk c x.2.1.ap::jD c.l x.1::Zk x.1 x.2.1.l::(Yw c.b c.v m.x m.D++[Zv w,Zl w,YT w.n vn (G.last+ms.length),YL vn (G.st++XD G.last ms) css,cZ w.vo G.out])++F):=by
  rintro⟨vl4,m4,R4⟩ ⟨hm4,hR4⟩;try dsimp only
  dsimp only at hm4 hR4;subst hm4;refine sW (A:=Zk vl4 m.rest.l) Qm zl (λhvl4=>?_);refine sW (A:=cZ w.vo G.out) Qm zl (λhvo4=>?_);have hv4:=hv2.mono hR4;have htl:=nQ (m:=m.rest);rw[hrx]at htl;refine hK6 _ _ _ (Qp ?_);rw[show gk c m.rest.ap=gk c (m.rest.ap+((0:Nat):Int))by simp,show Zk vl4 m.rest.l=Zk vl4 (m.rest.apply i G.out 0).1.l from rfl,show cZ w.vo G.out=cZ w.vo (m.rest.apply i G.out 0).2 from rfl];refine Lp (λ(y:Nat×Value×Value)=>[(0,.pointer (some ⟨w.g,0,none⟩)),(1,.int .i64 (i:Int)),(6,.pointer (some ⟨c.m,0,none⟩))]) (λy=>R4) (λy=>gk c (m.rest.ap+(y.1:Int))::jD c.l y.2.1::Zk y.2.1 (m.rest.apply i G.out y.1).1.l::(Yw c.b c.v m.x m.D++[Zv {w with vo:=y.2.2},Zl w,YT w.n vn (G.last+ms.length),YL vn (G.st++XD G.last ms) css,cZ y.2.2 (m.rest.apply i G.out y.1).2])++F) (λy=>y.1<=m.rest.todo.length/\y.2.1.oneCell'=true/\y.2.2.oneCell'=true) (λy=>m.rest.todo.length-y.1) (0,vl4,w.vo) (⟨by simp,hvl4,hvo4⟩) ?_;rintro⟨k,vk,vo⟩ ⟨hk,hvk,hvo⟩;try dsimp only
  dsimp only at hk hvk hvo;let⟨p1,p2,p3,p4,p5⟩:=g9 (i:Int) (m.rest.todo.take k) (m.rest,G.out);have p33:(m.rest.apply i G.out k).1.ap=m.rest.ap+(k:Int):=by rw[show(m.rest.apply i G.out k)=(m.rest.todo.take k).foldl (Ye i) (m.rest,G.out)from rfl,p3,GX,Hj Om]
  have p55:(m.rest.apply i G.out k).2.length<=1000200000:=Hn p5 (by have h9:(m.rest.todo.take k).length=min k m.rest.todo.length:=GX;dsimp only;omega);have px:(m.rest.apply i G.out k).1.x=m.x:=p1.trans hrx;have pD:(m.rest.apply i G.out k).1.D=m.D:=p2.trans hrD;have pfin:m.rest.todo.length<=k->XI i m G.out=m.rest.apply i G.out k:=λh=>by rw[e0,xc h]
  refine cS λ_ k7=>cS λ_ k8=>?_;refine dW ?_;refine Qa Qf ?_;refine Qa Qe ?_;refine Qa (Ga Hq Gw) ?_;refine Qa (La QO) ?_;refine Qa Qf ?_;refine Qa Qe ?_;refine Qa (Ga Hq JK) ?_;refine Qa (La XH) ?_;refine Qa (Ca call39 (kr c.b c.v m.x)) ?_;refine Qa QR ?_;refine Xj ?_;refine k8 ?_;refine Qi rfl (λhc65=>?_) (λhc65=>?_);have f2:m.rest.ap+(k:Int)<m.x.commit:=by simpa using hc65
  let⟨e,ok,hev,hok1,hok2⟩:=fc (m.rest.todo[k]?);have hat:∀R1,R4.le R1->QTri prog 40 [.pointer (some ⟨c.b.l,0,none⟩),.int .u64 (m.rest.ap+(k:Int)+1)] R1 [Yo c.b c.v m.x] (QI [.agg ⟨XB e⟩,.bool ok]):=λR1 hR1=>by rw[<-hev,show m.rest.todo[k]?=m.x.g.at (m.rest.ap+(k:Int)+1)by rw[<-hrx];exact(BC (by rw[hrx];exact hrb) (by rw[hrx];exact f2)).symm];exact gq (R:=R1) c.b.l (some ⟨c.b.d,0,none⟩) c.v.va m.x.g hgo (hv4.va.mono hR1) (m.rest.ap+(k:Int)+1) (by unfold QQ;omega)
  refine Qh (k7 (Qp (cS λ_ k10=>?_)));refine mG (L:=[gk c (m.rest.ap+(k:Int)),Xk c.b c.v m.x,Yo c.b c.v m.x]) [0,1,2,3,4,5,6,7,8,9,10,11,12,13] [14,15] [16] ?_;refine Wc rfl Qf ?_;refine Wc rfl Qe ?_;refine Wc rfl (Ga Hq JK) ?_;refine Wc rfl (La XH) ?_;refine Wc rfl (Ca KB (lG c.b c.v m.x)) ?_;refine Wc rfl Qf ?_;refine Wc rfl Qe ?_;refine Wc rfl (Ga Hq Gw) ?_;refine Wc rfl (La QO) ?_;refine Wc rfl Yg ?_;refine Wa rfl (λR1 hR1 G=>(Ca Mf (hat R1 hR1))) ?_;refine Wc rfl Qf ?_;refine Wc rfl Ql ?_;refine Wc rfl Ql ?_;refine Xq ?_;refine QT rfl ?_;try simp only[cC]
  refine QC Qo rfl H2 rfl (λbe=>?_);refine QU QB Qw ?_;refine QT rfl ?_;try simp only[cC]
  refine Sm (vs:=XB e) yQ (entE.one (R:=R4) (x:=e) rfl) ?_;refine QU QB Qw ?_;refine Xt ?_;try simp only[cC]
  refine Ps (Qd (k10 ?_));refine cE [0,1,6,10,11] ?_;refine cS λ_ k11=>cS λ_ k12=>Qc (Pm ?_);refine Pa Xa (Qd (k12 ?_));refine Qi rfl (λhc81=>?_) (λhc81=>?_);have g1:=hok2 (by simpa using hc81);have f3:m.rest.todo.length<=k:=by rw[J7]at g1;exact g1
  refine Qg (r_ ?_);refine Er results44 (gk c (m.rest.ap+(k:Int))::jD c.l vk::Zk vk (m.rest.apply i G.out k).1.l::(Yw c.b c.v m.x m.D++[Zv {w with vo:=vo},Zl w,YT w.n vn (G.last+ms.length),YL vn (G.st++XD G.last ms) css,cZ vo (m.rest.apply i G.out k).2])) (by first|exact Hp.le_trans hR2 hR4|exact hR2) ?_;refine⟨vk,vn,css,vo,hels.mono hR4,?_⟩;rw[pfin f3];simp only[Yi,px,pD,p33];rfl;have g1:=hok1 (by simpa using hc81);have g2:k<m.rest.todo.length:=(Gj.1 g1).1;have hs:=uQ (i:=(i:Int)) (o:=G.out) g1;have p44:(m.rest.apply i G.out k).1.l.length<=200000:=Hn p4 (by have h9:(m.rest.todo.take k).length=min k m.rest.todo.length:=GX;dsimp only;omega);refine Qh (k11 (cS λ_ k14=>Qc (Pm ?_)));refine Pa Qe ?_;refine Pa (Ga Hq Gw) ?_;refine Pa (La QO) ?_;refine Pa ((Yld.to (u:=.int .u64 (m.rest.ap+((k+1:Nat):Int))) Yg (by congr 1;omega))) ?_;refine Pa Qe ?_;refine Pa (Ga Hq Gw) ?_;refine Sa QO ?_;refine Qd (k14 (cS λ_ k15=>Qc ?_));refine Pa (Ga IB Ic) ?_;refine Pa (La o9) ?_;refine Pa (fA rfl rfl) (Qd (k15 ?_));refine Qi rfl (λhc91=>?_) (λhc91=>?_);have f4:¬e.2=[]:=by simpa using hc91
  have q1:(m.rest.apply i G.out (k+1)).1.l=(m.rest.apply i G.out k).1.l++[e.2]:=by rw[hs];unfold Ye;rw[ac f4]
  have q2:(m.rest.apply i G.out (k+1)).2=(m.rest.apply i G.out k).2++[⟨i,m.rest.ap+((k+1:Nat):Int),e.1,d8 ((m.rest.apply i G.out k).1.l.length+1)⟩]:=by rw[hs];unfold Ye;rw[ac f4];dsimp only;rw[p33];congr 3;omega
  refine mG (L:=[Zv {w with vo:=vo},gk c (m.rest.ap+((k+1:Nat):Int)),QA be (XB e) 93]) [0,1,2,3,4,5,6,7,8,9,10,11,12,13,14,15,16,17] [18,19,20,21] [22,23,24] ?_;refine Wc rfl Qf ?_;refine Wc rfl Qf ?_;refine Wc rfl Qe ?_;refine Wc rfl (Ga Ii Mz) ?_;refine Wc rfl (La A3) ?_;refine Wc rfl Qf ?_;refine Wc rfl Qf ?_;refine Wc rfl Qe ?_;refine Wc rfl (Ga Hq Gw) ?_;refine Wc rfl (La QO) ?_;refine Wc rfl (Ga IB Gw) ?_;refine Wc rfl (La QO) ?_;refine Wc rfl Qf ?_;refine Wc rfl Qe ?_;refine Wc rfl (Ga Hq KW) ?_;refine Wc rfl (La so) ?_;refine Wc rfl (Ga IB Ic) ?_;refine Wc rfl (La o9) ?_;refine Xq ?_;refine QT rfl ?_;try simp only[cC]
  refine cU Qo rfl rfl (λw=>by kernel_rfl) call170 rfl (Dd c.l vk (m.rest.apply i G.out k).1.l e.2 p44) Za (λ_ _ _ _ h=>h.elim) ?_;rintro r R5 L' hR5 ⟨rfl,rfl,v110,rfl⟩;rw[<-q1];refine gP (A:=Zk v110 (m.rest.apply i G.out (k+1)).1.l) Qm zl (λh110=>?_);try simp only[cB]
  refine QU QB Qw ?_;refine QT rfl ?_;try simp only[cC]
  refine Pa (Xh (cells:=[_,_,_,_]) [(0,1),(1,1),(2,1),(3,1)] Mb Mv (λ_=>rfl)) ?_;refine QU QB Qw ?_;refine QT rfl ?_;try simp only[cC]
  refine Qv (sz:=4) Qo rfl JW sizeOf41 Mv rfl rfl rfl Dc Dc (λbo=>?_);refine QU QB Qw ?_;refine QT rfl ?_;try simp only[cC]
  refine QZ (sz:=4) (by_:=40) ⟨JW,_,_,rfl,rfl,rfl,rfl,rfl⟩ Qo rfl rfl rfl Qm (XL (xs:=gf ⟨i,m.rest.ap+((k+1:Nat):Int),e.1,d8 ((m.rest.apply i G.out k).1.l.length+1)⟩) JW Qm (by unfold gf;(first|(simp[Value.oneCell'];done)|(intro u hu;simp only[Gn,Gs,G7]at hu;rcases hu with rfl|rfl|rfl|rfl<;>first|rfl|assumption)))) rfl Qu (by simp only[maxLen];omega) (λv113 ho113 hh113=>?_);rw[x6,<-q2];rw[show(m.rest.apply i G.out k).2.length+1=(m.rest.apply i G.out (k+1)).2.length by rw[q2];simp];refine QU QB Qw ?_;refine Xt ?_;try simp only[cC]
  refine Pa Qe ?_;refine Pa (Ga Ii Mz) ?_;refine Sa A3 ?_;refine Qd ?_;refine ro rfl (rd ((k+1,v110,v113)) (⟨by dsimp only;omega,by assumption,by assumption⟩) Do);have f4:e.2=[]:=by simpa using hc91
  have q1:(m.rest.apply i G.out (k+1)).1.l=(m.rest.apply i G.out k).1.l:=by rw[hs];unfold Ye;rw[an f4]
  have q2:(m.rest.apply i G.out (k+1)).2=(m.rest.apply i G.out k).2:=by rw[hs];unfold Ye;rw[an f4]
  rw[<-q1,<-q2];refine Qh ?_;refine ro rfl (rd ((k+1,vk,vo)) (⟨by dsimp only;omega,hvk,hvo⟩) Do);have f2:¬m.rest.ap+(k:Int)<m.x.commit:=by simpa using hc65
  have f3:m.rest.todo.length<=k:=by omega
  refine QG (n_ ?_);refine Et results44 (gk c (m.rest.ap+(k:Int))::jD c.l vk::Zk vk (m.rest.apply i G.out k).1.l::(Yw c.b c.v m.x m.D++[Zv {w with vo:=vo},Zl w,YT w.n vn (G.last+ms.length),YL vn (G.st++XD G.last ms) css,cZ vo (m.rest.apply i G.out k).2])) (by first|exact Hp.le_trans hR2 hR4|exact hR2) ?_;refine⟨vk,vn,css,vo,hels.mono hR4,?_⟩;rw[pfin f3];simp only[Yi,px,pD,p33];rfl
 refine cS λ_ k17=>Qc (Pm ?_);refine Pa Qe ?_;refine Pa (Ga Hq JK) ?_;refine Pa (La XH) ?_;refine Pa (Ca KB (lG c.b c.v m.x)) ?_;refine Pa (Ca LF (jT c.b.l (some ⟨c.b.d,0,none⟩) c.v.va m.x.g)) (Pm ?_);refine Pa Ql ?_;refine Pa Ql ?_;refine Pa Ql (Ps (Ps (Ps (Qd (k17 ?_)))));refine cE [0,1,6,7,9] ?_;refine cS λ_ k18=>Qc (Pm (Pm ?_));refine Pa Qe ?_;refine Pa (Ga Hq Gw) ?_;refine Pa (La QO) ?_;refine Pa XG (Qd (k18 ?_));refine Qi rfl (λhc45=>?_) (λhc45=>?_);have f1:m.x.g.base>m.ap:=by simpa using hc45
 have e1:m.rest={m with l:=ZC m.x.g.state,ap:=m.x.g.base}:=by unfold MS.rest;rw[an f1]
 refine cS λ_ k20=>Qc (Pm ?_);refine Pa Qe ?_;refine Pa (Ga Hq KW) ?_;refine Pa (La so) (Pm ?_);refine cU Qo rfl rfl (λw=>by kernel_rfl) call171 rfl (my c.l c.vl m.l m.x.g.state Om) Za (λ_ _ _ _ h=>h.elim) ?_;rintro r R3 L' hR3 ⟨rfl,vl3,rfl⟩;try simp only[cB]
 refine Qd (k20 (Qc (Pm (Pm ?_))));refine Pa Qe ?_;refine Pa (Ga Hq Gw) ?_;refine Sa QO ?_;refine Qd ?_;refine Jn hJ7 ((vl3,{m with l:=ZC m.x.g.state,ap:=m.x.g.base},R3)) (⟨e1,hR3⟩);have f1:¬m.x.g.base>m.ap:=by simpa using hc45
 have e1:m.rest=m:=by unfold MS.rest;rw[ac f1]
 refine Qh ?_;refine Jn hJ7 ((c.vl,m,R2)) (⟨e1,Hp.le_refl _⟩)
def om(b:NB)(v:NV)(x:ND)(D:DK)(fk:FuncId)(caps:List Value)(Ex:List Qj)(hd:Xy (x,D)=true):
  Tri prog 62 [.pointer (some ⟨b.x,0,none⟩),.func (.func fk) ⟨[]⟩ ⟨caps⟩] R (Yw b v x D++Ex) (λr R' L'=>r=.slice none 0 0/\L'=Yw b v x D++Ex):=by
 refine nP func62 rfl ntmps62 rfl (λσ F Q hret hend hpan hQ=>?_);try simp[cB]
 refine cS λ_ k1=>Qc (QC Qo rfl zeroValue98 rfl (λb4=>Qd (k1 (cS λ_ k2=>cS λ_ k3=>Qc (Pm (Pa (Ca KU ((yZ b v x D).eq3 (v':=.bool true) (by rw[hd]))) (Qd (k3 (QD rfl (cS λ_ k4=>Qc (Sa fw (Qd (k4 (Qg (hret _ _ _ ?_)))))))))))))));apply qs LX (.cons (gN fw rfl Qm rfl) .nil) _ (Yw b v x D++Ex) (Hp.le_refl _) rfl;case hp=>exact⟨rfl,rfl⟩
 case hS=>exact Qw
def BE(b:NB)(v:NV)(x:ND)(D:DK)(hd:Xy (x,D)=true):Tri prog 50 [.pointer (some ⟨b.x,0,none⟩)] R (Yw b v x D) (λr R' L'=>r=.slice none 0 0/\L'=Yw b v x D):=by
 refine To func50 ntmps50 λ_ F _ r_ _ _=>?_;try simp[cB]
 refine cS λ_ k1=>Qc (Xc Qo rfl rfl rfl (λbX=>Ps (Qd (k1 (cS λ_ k2=>Qc (Pa (La XH) (Pa Zo (Ra Md (om b v x D 68 [.pointer (some ⟨bX,0,none⟩)] [QA bX [.pointer (some ⟨b.x,0,none⟩)] 56] hd) ?_))))))));rintro r R2 L' hR2 ⟨rfl,rfl⟩;try simp[cB]
 exact Ps (Qd (k2 (Qg (r_ (Er results50 (Yw b v x D) hR2 ⟨rfl,rfl⟩)))))
def ua(b:NB)(v:NV)(x:ND)(D:DK)(m:Msg)(ve:Value)(hve:FrX entE R m.es ve)(hd:Xy (x,D)=true):Tri prog 53 [.pointer (some ⟨b.x,0,none⟩),.agg ⟨Xl m ve⟩] R (Yw b v x D) (λr R' L'=>r=.slice none 0 0/\L'=Yw b v x D):=by
 have hveo:=hve.one;refine To func53 ntmps53 λ_ F _ r_ _ _=>?_;try simp[cB]
 refine cS λ_ k1=>Qc (Xc Qo rfl rfl rfl (λbX=>Xc Qo rfl rfl rfl (λbM=>Ps (Qd (k1 (cS λ_ k2=>Qc (Pa (La XH) (Pa Zo (Ra Md (om b v x D 73 [.pointer (some ⟨bM,0,none⟩),.pointer (some ⟨bX,0,none⟩)] [QA bX [.pointer (some ⟨b.x,0,none⟩)] 56,QA bM (Xl m ve) 117] hd) ?_)))))))));rintro r R2 L' hR2 ⟨rfl,rfl⟩;try simp[cB]
 exact Ps (Qd (k2 (Qg (r_ (Er results53 (Yw b v x D) hR2 ⟨rfl,rfl⟩)))))
def ug(b:NB)(v:NV)(x:ND)(D:DK)(cmd:Bs)(hd:Xy (x,D)=true):Tri prog 43 [.pointer (some ⟨b.x,0,none⟩),.string (Qs cmd)] R (Yw b v x D) (λr R' L'=>r=QI [.int .u64 0,.int .u64 0,.slice none 0 0]/\L'=Yw b v x D):=by
 refine To func43 ntmps43 λ_ F _ r_ _ _=>?_;try simp[cB]
 refine cS λ_ k1=>Qc (Xc Qo rfl rfl rfl (λbX=>Xc Qo rfl rfl rfl (λbC=>Ps (Ps (Ps (Qd (k1 (cS λ_ k2=>cS λ_ k3=>Qc (Pa (La XH) (Pa (Ca MT (iN b v x)) (Pa Yp (Qd (k3 (Qi rfl (λhc10=>?_) (λhc10=>?_)))))))))))))));try simp[dx]at hc10
 exact cS λ_ k5=>Qc (Ps (Ps (Ps (Qd (k5 (Qg (r_ (Er Lj (Yw b v x D) (by first|exact Hp.le_refl _|assumption) ⟨rfl,rfl⟩))))))));try simp[dx]at hc10
 refine Qh (k2 (cS λ_ k6=>Qc (Pa (La XH) (Pa Zo (Ra Md (om b v x D 63 [.pointer (some ⟨bX,0,none⟩),.pointer (some ⟨bC,0,none⟩)] [QA bX [.pointer (some ⟨b.x,0,none⟩)] 56,QA bC [.string (Qs cmd)] 9] hd) ?_)))));rintro r R2 L' hR2 ⟨rfl,rfl⟩;try simp[cB]
 exact Ps (Qd (k6 (cS λ_ k7=>cS λ_ k8=>Qc (Pa (La XH) (Pa (Ca KU ((yZ b v x D).eq3 (v':=.bool true) (by rw[hd]))) (Qd (k8 (QD rfl (cS λ_ k9=>Qc (Ps (Ps (Ps (Qd (k9 (Qg (r_ (Er Lj (Yw b v x D) (by first|exact Hp.le_refl _|assumption) ⟨rfl,rfl⟩)))))))))))))))))
def uO(b:NB)(v:NV)(x:ND)(D:DK)(i:Int)(t:Bs)(hd:Xy (x,D)=true):Tri prog 54 [.pointer (some ⟨b.x,0,none⟩),.int .u64 i,.string (Qs t)] R (Yw b v x D) (λr R' L'=>r=.int .i64 3/\L'=Yw b v x D):=by
 refine To func54 ntmps54 λ_ F _ r_ _ _=>?_;try simp[cB]
 exact cS λ_ k1=>Qc (Ps (Qd (k1 (cS λ_ k2=>Qp (cS λ_ k3=>Qc (Pm (Pa (Ca KU ((yZ b v x D).eq3 (v':=.bool true) (by rw[hd]))) (Ps (Qd (k3 (QD rfl (cS λ_ k4=>Qc (Ps (Qd (k4 (Qg (r_ (Es LZ (Yw b v x D) ⟨rfl,rfl⟩))))))))))))))))))
def qB{f:NS->Bool×NS}(h:Xy (x,D)=true):Xw (x,D) f=([],(x,D)):=by unfold Xw;rw[an h]
def Cp(b:NB)(v:NV)(m:MS)(hw:MW m)(hv:NOk R v m.x):
  Tri prog 50 [.pointer (some ⟨b.x,0,none⟩)] R (Yw b v m.x m.D) (λr R' L'=>∃v',FrX msgE R' m.tick.2 r/\NOk R' v' m.tick.1.x/\L'=Yw b v' m.tick.1.x m.tick.1.D):=by
 by_cases hd:Xy (m.x,m.D)=true
 .refine Tri.mono (BE b v m.x m.D hd) (λr R' L' hR h=>?_) (λ_ _ _ _ h=>h);obtain⟨rfl,rfl⟩:=h;have e:m.tick=(m,[]):=by unfold MS.tick MS.act;rw[qB hd];simp[Zd hw.out]
  rw[e];exact⟨v,FrX.nil,hv.mono hR,rfl⟩
 refine Tri.mono (Dw b v m.x m.D 0 690000000 Om (hw.up hd) hv hw.ok Om) (λr R' L' _ h=>?_) (λ_ _ _ _ h=>h);obtain⟨v',hr,hv',rfl⟩:=h;exact⟨_,hr,hv'.q,rfl⟩
def Cr(b:NB)(v:NV)(m:MS)(g:Msg)(ve:Value)(hw:MW m)(hg:MIm 0 g)(hve:FrX entE R g.es ve)(hv:NOk R v m.x):
  Tri prog 53 [.pointer (some ⟨b.x,0,none⟩),.agg ⟨Xl g ve⟩] R (Yw b v m.x m.D) (λr R' L'=>∃v',FrX msgE R' (m.recv g).2 r/\NOk R' v' (m.recv g).1.x/\L'=Yw b v' (m.recv g).1.x (m.recv g).1.D):=by
 by_cases hd:Xy (m.x,m.D)=true
 .refine Tri.mono (ua b v m.x m.D g ve hve hd) (λr R' L' hR h=>?_) (λ_ _ _ _ h=>h);obtain⟨rfl,rfl⟩:=h;have e:m.recv g=(m,[]):=by unfold MS.recv MS.act;rw[qB hd];simp[Zd hw.out]
  rw[e];exact⟨v,FrX.nil,hv.mono hR,rfl⟩
 refine Tri.mono (vT b v m.x m.D g ve 0 690000000 Om (hw.up hd) hv hg hve hw.ok Om) (λr R' L' _ h=>?_) (λ_ _ _ _ h=>h);obtain⟨v',hr,hv',rfl⟩:=h;exact⟨_,hr,hv'.q,rfl⟩
def Cv(b:NB)(v:NV)(m:MS)(cmd:Bs)(hw:MW m)(hc:cmd.length<=100)(hv:NOk R v m.x):
  Tri prog 43 [.pointer (some ⟨b.x,0,none⟩),.string (Qs cmd)] R (Yw b v m.x m.D) (λr R' L'=>∃v' vl,r=QI [.int .u64 (m.prop cmd).1.1,.int .u64 (m.prop cmd).1.2,vl]/\FrX msgE R' (m.prop cmd).2.2 vl/\NOk R' v' (m.prop cmd).2.1.x/\L'=Yw b v' (m.prop cmd).2.1.x (m.prop cmd).2.1.D):=by
 by_cases hd:Xy (m.x,m.D)=true
 .refine Tri.mono (ug b v m.x m.D cmd hd) (λr R' L' hR h=>?_) (λ_ _ _ _ h=>h);obtain⟨rfl,rfl⟩:=h;have e:XX (m.x,m.D) cmd=((0,0,[]),(m.x,m.D)):=by
   unfold XX;rw[qB hd];by_cases h:m.x.role=2;.rw[ac (by simp[h]),an hd]
   rw[an h]
  have e2:m.prop cmd=((0,0),(m,[])):=by unfold MS.prop MS.act;rw[e];simp[Zd hw.out]
  rw[e2];exact⟨v,_,rfl,FrX.nil,hv.mono hR,rfl⟩
 refine Tri.mono (v8 b v m.x m.D cmd 0 690000000 Om (hw.up hd) hv hc hw.ok Om) (λr R' L' _ h=>?_) (λ_ _ _ _ h=>h);obtain⟨vl,v',rfl,hr,hv',rfl⟩:=h;exact⟨_,_,rfl,hr,hv'.q,rfl⟩
def Cz(b:NB)(v:NV)(m:MS)(hw:MW m)(hv:NOk R v m.x):
  Tri prog 54 [.pointer (some ⟨b.x,0,none⟩),.int .u64 m.ap,.string (Qs (ZI m.l))] R (Yw b v m.x m.D) (λr R' L'=>r=.int .i64 m.comp.1/\∃v',NOk R' v' m.comp.2.x/\L'=Yw b v' m.comp.2.x m.comp.2.D):=by
 by_cases hd:Xy (m.x,m.D)=true
 .refine Tri.mono (uO b v m.x m.D _ _ hd) (λr R' L' hR h=>?_) (λ_ _ _ _ h=>h);obtain⟨rfl,rfl⟩:=h;have e:YV (m.x,m.D) m.ap (ZI m.l)=(3,(m.x,m.D)):=by unfold YV;rw[an hd]
  have e2:m.comp=(3,m):=by unfold MS.comp;rw[e];simp[Zd hw.out]
  rw[e2];exact⟨rfl,v,hv.mono hR,rfl⟩
 have hsl:=bf hw.l.2 (Hn hw.l.1 Dc);have hll:=hw.l.1;have hap:=hw.ap;refine Tri.mono (rA b v m.x m.D m.ap (ZI m.l) 0 690000000 Om (hw.up hd) hv (by unfold QQ;omega) Om hw.ok) (λr R' L' _ h=>?_) (λ_ _ _ _ h=>h);obtain⟨rfl,v',hv',rfl⟩:=h;exact⟨rfl,_,hv'.q,rfl⟩
def jU(i:Int)(m:MS)(o:List OC):(XI i m o).1.x=m.x/\(XI i m o).1.D=m.D:=by
 unfold XI;split;.exact⟨rfl,rfl⟩
 let⟨a,b,_⟩:=g9 i m.rest.todo (m.rest,o);let⟨c,d,_⟩:=bu m;exact⟨a.trans c,b.trans d⟩
def j8(w:GV)(c:MV)(m':MS)(G':GS)(R':Hp)(L':List Qj):Prop:=
 ∃c' vn css vo,c'.m=c.m/\NOk R' c'.v m'.x/\Els oneE R' G'.st css/\L'=Yi c' m'++yR {w with vn:=vn,css:=css,vo:=vo} G'
def iy(w:GV)(G':GS)(R':Hp)(L':List Qj):Prop:=∃vn css vo cs,GOk R' ⟨w.g,w.va,w.n,vn,css,vo,cs⟩ G'/\L'=YN ⟨w.g,w.va,w.n,vn,css,vo,cs⟩ G'
def xT{c':MV}(hc:cs[i]?=some c)(h:c'.m=c.m):yt (cs.set i c')=yt cs:=by
 have hi:=(Gj.1 hc).1;unfold yt;apply Ir;intro j;rw[HD,HD,IF];by_cases hj:i=j;.subst hj;rw[an rfl,an hi,hc];simp[h]
 rw[ac hj]
def bG{P:Program}{w:GV}{G':GS}{m m':MS}{Pr:Value->Prop}(hok:GOk R w G)(hc:w.cs[i]?=some c)(hm:G.ms[i]?=some m)(hms:G'.ms=G.ms.set i m')
  (h:Tri P f args R (Yi c m++yR w G) (λr R' L'=>Pr r/\j8 w c m' G' R' L')):Tri P f args R (YN w G) (λr R' L'=>Pr r/\iy w G' R' L'):=by
 have h2:=Tri.big (post:=λr R' As' L1=>Pr r/\∃c' vn css vo,c'.m=c.m/\NOk R' c'.v m'.x/\Els oneE R' G'.st css/\As'=Yi c' m'/\L1=yR {w with vn:=vn,css:=css,vo:=vo} G') (yK hc hm)
  (Tri.mono h (λr R' L' _ h=>by
   obtain⟨h0,c',vn,css,vo,h1,h2,h3,h4⟩:=h
   exact⟨_,_,⟨h0,c',vn,css,vo,h1,h2,h3,rfl,rfl⟩,h4⟩) (λ_ _ _ _ h=>h))
 refine Tri.mono h2 (λr R' L' hR h=>?_) (λ_ _ _ _ h=>h);obtain⟨As',L1,⟨h0,c',vn,css,vo,hcm,h1,h2,rfl,rfl⟩,rfl⟩:=h;have hi:=(Gj.1 hc).1;refine⟨h0,vn,css,vo,w.cs.set i c',⟨?_,?_,h2⟩,?_⟩;.rw[hms];simp[hok.len]
 .intro j c1 m1 hc1 hm1;rw[hms]at hm1;dsimp only at hc1;rw[IF]at hc1 hm1;by_cases hj:i=j;.subst hj;rw[an rfl,an hi]at hc1;rw[an rfl,an (by rw[<-hok.len];exact hi)]at hm1;cases hc1;cases hm1;exact h1
  rw[ac hj]at hc1 hm1;exact(hok.nd j c1 m1 hc1 hm1).mono hR
 have e1:=xT hc hcm;have e2:(w.cs.set i c').length=w.cs.length:=Si;simp[YN,yR,Zl,Zv,e1,e2,hms];rw[y9]
def i6{m:MS}{l:List Msg}(hi:i<G.ms.length)(hw:GW (G.done i m l))(hap:0<=m.ap/\m.ap<=150000000000000)(hl:0<=G.last):
  (∀x∈l,zE x)/\G.st.length+l.length<=1000000/\(0<=G.last/\G.last+l.length<=1000000)/\(¬m.dn=true->m.x.g.ok/\m.x.commit<=150000000000000/\m.rest.l.length<=100000):=by
 have h1:=hw.st;have h2:=hw.last;have h3:(G.st++XD G.last l).length<=900000:=h1;have h4:0<=G.last+l.length/\G.last+l.length<=900000:=h2;rw[Gm,yu]at h3;refine⟨λx hx=>?_,Om,⟨hl,Om⟩,λhd=>?_⟩
 .have:∃k,(k,x)∈XD G.last l:=by
   clear h1 h2 h3 h4 hw;generalize G.last=q;induction l generalizing q with
   |nil=>cases hx
   |cons y l ih=>
    rcases Gn.1 hx with rfl|hx;.exact⟨q+1,by simp[XD]⟩
    let⟨k,hk⟩:=ih hx (q+1);exact⟨k,by rw[XD];exact H9 _ hk⟩
  let⟨k,hk⟩:=this;exact(hw.msg (k,x) (HH _ hk)).2
 have hmem:(XI i m G.out).1∈(G.done i m l).ms:=by
  show _∈G.ms.set i _;exact Gv (i:=i) (by rw[IF,an rfl,an hi])
 have hmw:=hw.ms _ hmem;let⟨e1,e2⟩:=jU i m G.out;have hn:=hmw.up (by unfold MS.dn;rw[e1,e2];exact hd);rw[e1]at hn;have hc:=hn.commit;refine⟨hn.g Om,Om,?_⟩;have h5:=hmw.l.1;unfold XI at h5;rw[ac hd]at h5;exact Hn (xd i m.rest.todo (m.rest,G.out)) Om
def GOk.map{w:GV}(h:GOk R w G)(hc:w.cs[i]?=some c):(w.cs[i]?).map MV.m=some c.m:=by rw[hc];rfl
def a8{m:MS}(hm:G.ms[i]?=some m):G.tick i=G.done i m.tick.1 m.tick.2:=by unfold GS.tick;rw[hm]
def wF(w:GV)(G:GS)(c:MV)(m:MS)(i:Nat)(hok:GOk R w G)(hc:w.cs[i]?=some c)(hm:G.ms[i]?=some m)(hw:GW G)(hw':GW (G.tick i)):
  Tri prog 26 [.pointer (some ⟨w.g,0,none⟩),.int .i64 (i:Int)] R (Yi c m++yR w G) (λr R' L'=>True/\j8 w c (XI i m.tick.1 G.out).1 (G.tick i) R' L'):=by
 have hi:=(Gj.1 hm).1;have hmw:=hw.ms m (Gv hm);have hnd:=hok.nd i c m hc hm;rw[a8 hm]at hw'|-;let⟨d1,d2,d3,d4⟩:=i6 hi hw' hmw.ap hw.last.1;have d5:=hw.out;refine To func26 ntmps26 λ_ F _ _ n_ _=>?_;try simp[cB]
 refine cS λ_ k1=>Qc (Pm (Pm (Pa (Ca Kp ((ze w i).eq3 (ZQ hc))) (Ps (Qd (k1 (cS λ_ k2=>Qc (Pm ?_))))))));refine Pa (yT IJ) (Qd (k2 (QD rfl (Qc (Pm (Pm (Pm (Pa Qe (Pa (Ga Hq JK) ?_)))))))));refine Pa (La XH) (Ra call50 (Cp c.b c.v m hmw hnd) ?_);rintro r R2 L' hR2 ⟨v',hr,hv',rfl⟩;have hro:=hr.one;try simp[cB]
 refine Ra call44 (iX w G {c with v:=v'} m.tick.1 i m.tick.2 r (by exact hok.map (c:=c) hc) hr d1 (hok.els.mono hR2) hv' d2 d3 d4 hmw.ap Om) ?_;rintro r R3 L' hR3 ⟨vl',vn,css,vo,hels,rfl⟩;try simp[cB]
 exact Qd (n_ (Et results26 (Yi {c with v:=v',vl:=vl'} (XI i m.tick.1 G.out).1++yR {w with vn:=vn,css:=css,vo:=vo} (G.done i m.tick.1 m.tick.2)) (Hp.le_trans hR2 hR3) ⟨trivial,{c with v:=v',vl:=vl'},vn,css,vo,rfl,by rw[(jU i m.tick.1 G.out).1];exact hv'.mono hR3,hels,rfl⟩))
def pv(w:GV)(G:GS)(i:Nat)(hok:GOk R w G)(hi:i<G.ms.length)(hw:GW G)(hw':GW (G.tick i)):
  Tri prog 26 [.pointer (some ⟨w.g,0,none⟩),.int .i64 (i:Int)] R (YN w G) (λr R' L'=>iy w (G.tick i) R' L'):=by
 obtain⟨m,hm⟩:∃m,G.ms[i]?=some m:=⟨_,b7 hi⟩;let⟨c,hc,_,_⟩:=hok.at hm;exact Tri.mono (bG hok hc hm (m':=(XI i m.tick.1 G.out).1) (by rw[a8 hm];rfl) (wF w G c m i hok hc hm hw hw')) (λ_ _ _ _ h=>h.2) (λ_ _ _ _ h=>h)
def kO{k:Int}{m:MS}(hb:Yb G.st k=true)(hto:(XV G.st k).2.to=(i:Int))(hm:G.ms[i]?=some m):G.deliver k=(G.take k).done i (m.recv (XV G.st k).2).1 (m.recv (XV G.st k).2).2:=by
 unfold GS.deliver;rw[an hb,an Om,hto,Hc,hm]
def fN(hw:GW G):fO G.st:=λx hx=>(hw.msg x hx).2
def EW(hw:GW G){k:Int}(hb:Yb G.st k=true):MIm 0 (XV G.st k).2:=by
 obtain⟨n,rfl⟩:=Hu (show 0<=k by unfold Yb at hb;simp at hb;omega);have hn:n<G.st.length:=by unfold Yb at hb;simp at hb;omega
 rw[(cI (x:=G.st[n]) Si).1];exact(hw.msg _ (Kj hn)).1
def Ad(w:GV)(G:GS)(c:MV)(m:MS)(i:Nat)(k:Int)(hok:GOk R w G)(hc:w.cs[i]?=some c)(hm:G.ms[i]?=some m)(hw:GW G)(hw':GW (G.deliver k))(hb:Yb G.st k=true)(hto:(XV G.st k).2.to=(i:Int)):
  Tri prog 31 [.pointer (some ⟨w.g,0,none⟩),.int .i64 k] R (Yi c m++yR w G) (λr R' L'=>r=.bool (Yb G.st k)/\j8 w c (XI i (m.recv (XV G.st k).2).1 G.out).1 (G.deliver k) R' L'):=by
 have hi:=(Gj.1 hm).1;have hmw:=hw.ms m (Gv hm);have hnd:=hok.nd i c m hc hm;rw[kO hb hto hm]at hw'|-;let⟨d1,d2,d3,d4⟩:=i6 (G:=G.take k) hi hw' hmw.ap hw.last.1;have d5:=hw.out;have him:=EW hw hb;have hst:=hw.st;obtain⟨g,hg⟩:∃g,g=(XV G.st k).2:=⟨_,rfl⟩;have ht:=mE (R:=R) w.n w.vn G.last G.st w.css hok.els (fN hw) Om k;rw[<-hg]at hto him d1 d2 d3 d4 ht hw'|-;rw[hb]at ht|-;refine To func31 ntmps31 λ_ F _ r_ _ _=>?_;try simp[cB]
 refine cS λ_ k1=>Qc (Ps (Qd (k1 (cS λ_ k2=>cS λ_ k3=>Qc (Pm (Pa (Yv Km) (Qd (k3 (Qt rfl (Qh (k2 (cS λ_ k4=>Qc (Pm (Pa Qe (Pa (Ga Ii My) ?_)))))))))))))));refine Pa (La A2) (Pm (Ra call52 (ht) ?_));rintro r R2 L' hR2 ⟨⟨ve,rfl,hve⟩,vn2,css2,hk2,rfl⟩;have hveo:=hve.one;try simp[cB]
 refine Pm (Pa (Ql rfl rfl) (Pa (Ql rfl rfl) (QC Qo rfl Ia rfl (λbg=>Sm (vs:=Xl g ve) Yl (iQ hveo) ?_))));refine Ps (Qd (k4 (cS λ_ k5=>cS λ_ k6=>Qc (Pm (Pa (Ga GF GQ) ?_)))));refine Pa ((Yld.to (u:=.int .i64 (i:Int)) (La o3) (by rw[hto]))) (Pa (Ca Kp ((ze w (i:Int)).eq3 (ZQ hc))) (Ps (Qd (k6 (cS λ_ k7=>Qc (Pm (Pm (Pb (Qf rfl) (Pb (yT IJ rfl rfl) (Pa Qq (Qd (k7 (cE [0,5,6,7,27] (QD rfl (mG (L:=[QA bg (Xl g ve) 117,gk c m.ap]) [0,1,2,3,4,5,6,7] [8] [9] (Wc rfl (Qf rfl) ?_))))))))))))))));refine Wc rfl (Ga GF GQ) ?_;refine Wc rfl (Yld.to (u:=.int .i64 (i:Int)) (La o3) (by rw[hto])) (Wc rfl (Qf rfl) (Wc rfl (Qe rfl) ?_));refine Wc rfl (Ga Hq JK) ?_;refine Wc rfl (La XH) ?_;refine Wc rfl (Lm (vs:=Xl g ve) Yl) (Xq (QT rfl ?_));try simp[cC]
 refine Ra call53 (Cr c.b c.v m g ve hmw him hve (hnd.mono hR2)) ?_;rintro r R3 L' hR3 ⟨v',hr,hv',rfl⟩;have hro:=hr.one;try simp[cB]
 refine QU QB Qw (Xt ?_);try simp[cC]
 refine Ra call44 (iX {w with vn:=vn2,css:=css2} (G.take k) {c with v:=v'} (m.recv g).1 i (m.recv g).2 r (by exact hok.map (c:=c) hc) hr d1 (hk2.mono hR3) hv' d2 d3 d4 hmw.ap (by exact Hn d5 Dc)) ?_;rintro r R4 L' hR4 ⟨vl',vn,css,vo,hels,rfl⟩;try simp[cB]
 exact Qd (k5 (cS λ_ k8=>Qc (Pm (Ps (Qd (k8 (Qg (r_ (Er results31 (Yi {c with v:=v',vl:=vl'} (XI i (m.recv g).1 G.out).1++yR {w with vn:=vn,css:=css,vo:=vo} ((G.take k).done i (m.recv g).1 (m.recv g).2)) (Hp.le_trans hR2 (Hp.le_trans hR3 hR4)) ⟨rfl,{c with v:=v',vl:=vl'},vn,css,vo,rfl,by rw[(jU i (m.recv g).1 G.out).1];exact hv'.mono hR4,hels,rfl⟩)))))))))
def Ac(w:GV)(G:GS)(k:Int)(hok:GOk R w G)(hw:GW G)(hno:Yb G.st k=false\/ah w.cs (XV G.st k).2.to=.pointer none):
  Tri prog 31 [.pointer (some ⟨w.g,0,none⟩),.int .i64 k] R (yR w G) (λr R' L'=>r=.bool (Yb G.st k)/\∃vn css,Els oneE R' (G.take k).st css/\L'=yR {w with vn:=vn,css:=css} (G.take k)):=by
 have hst:=hw.st;obtain⟨g,hg⟩:∃g,g=(XV G.st k).2:=⟨_,rfl⟩;obtain⟨bb,hbb⟩:∃bb,bb=Yb G.st k:=⟨_,rfl⟩;have ht:=mE (R:=R) w.n w.vn G.last G.st w.css hok.els (fN hw) Om k;rw[<-hg]at ht hno;rw[<-hbb]at ht hno|-;obtain⟨pt,hpt,hpo⟩:∃pt,ah w.cs g.to=.pointer pt/\(bb=true->pt=none):=by
  obtain⟨pt,hpt⟩:∃pt,ah w.cs g.to=.pointer pt:=by
   unfold ah;split;.split<;>exact⟨_,rfl⟩
   exact⟨_,rfl⟩
  refine⟨pt,hpt,λh=>?_⟩;rcases hno with h1|h1
  .rw[h1]at h;cases h
  rw[h1]at hpt;cases hpt;rfl
 refine To func31 ntmps31 λ_ F _ r_ _ _=>?_;try simp[cB]
 refine cS λ_ k1=>Qc (Ps (Qd (k1 (cS λ_ k2=>cS λ_ k3=>Qc (Pm (Pa (Yv Km) (Qd (k3 (Qt rfl (Qh (k2 (cS λ_ k4=>Qc (Pm (Pa Qe (Pa (Ga Ii My) ?_)))))))))))))));refine Pa (La A2) (Pm (Ra call52 (ht) ?_));rintro r R2 L' hR2 ⟨⟨ve,rfl,hve⟩,vn2,css2,hk2,rfl⟩;have hveo:=hve.one;try simp[cB]
 refine Pm (Pa (Ql rfl rfl) (Pa (Ql rfl rfl) (QC Qo rfl Ia rfl (λbg=>Sm (vs:=Xl g ve) Yl (iQ hveo) ?_))));refine Ps (Qd (k4 (cS λ_ k5=>cS λ_ k6=>Qc (Pm (Pa (Ga GF GQ) ?_)))));refine Pa (La o3) (Pa (Ca Kp ((ze w g.to).eq3 hpt)) (Ps (Qd (k6 (cS λ_ k7=>Qc (Pm (Pm (QM 24 rfl (λhg24=>?_) (λhg24=>?_)))))))));try simp[dx]at hg24
 refine Pb Qf (Pb (yT IJ) (Pa Qq (Qd (k7 (cE [0,5,6,7,27] (Qi rfl (λhc27=>?_) (λhc27=>?_)))))));.rw[hpo hg24]at hc27;simp at hc27
 try simp[dx]at hc27
 exact Qh (k5 (cS λ_ k9=>Qc (Pm (Ps (Qd (k9 (Qg (r_ (Er results31 (yR {w with vn:=vn2,css:=css2} (G.take k)) hR2 ⟨rfl,vn2,css2,hk2,rfl⟩)))))))));try simp[dx]at hg24
 exact Pk (Pk (Pa Qn (Qd (k7 (Qt rfl (Qh (k5 (cS λ_ k10=>Qc (Pm (Ps (Qd (k10 (Qg (r_ (Er results31 (yR {w with vn:=vn2,css:=css2} (G.take k)) hR2 ⟨rfl,vn2,css2,hk2,rfl⟩)))))))))))))))
def Tri.fr{P:Program}{A:Qj}{post:Value->Hp->List Qj->Prop}(h:Tri P f args R L post):Tri P f args R (A::L) (λr R' L'=>∃L1,post r R' L1/\L'=A::L1):=λσ F w hs=>by
 refine(h σ (A::F) w (hs.sub (gK A L F))).mono λe w' ⟨R',L',hR,hw,hp⟩=>?_;cases e with
 |panicked ch=>exact hp.elim
 |outgrown=>exact hp.elim
 |returned v=>exact⟨R',A::L',hR,hw.sub (dH A L' F),L',hp,rfl⟩
def dr(w:GV)(G:GS)(k:Int)(hok:GOk R w G)(hw:GW G)(hw':GW (G.deliver k)):
  Tri prog 31 [.pointer (some ⟨w.g,0,none⟩),.int .i64 k] R (YN w G) (λr R' L'=>r=.bool (Yb G.st k)/\iy w (G.deliver k) R' L'):=by
 have hno:(Yb G.st k=false\/ah w.cs (XV G.st k).2.to=.pointer none)->G.deliver k=G.take k->Tri prog 31 [.pointer (some ⟨w.g,0,none⟩),.int .i64 k] R (YN w G) (λr R' L'=>r=.bool (Yb G.st k)/\iy w (G.deliver k) R' L'):=λh he=>by
  refine Tri.mono (Tri.fr (Ac w G k hok hw h)) (λr R' L' hR h2=>?_) (λ_ _ _ _ h=>h);obtain⟨L1,⟨h0,vn,css,h1,rfl⟩,rfl⟩:=h2;rw[he];exact⟨h0,vn,css,w.vo,w.cs,⟨hok.len,λi c m hc hm=>(hok.nd i c m hc hm).mono hR,h1⟩,rfl⟩
 by_cases hb:Yb G.st k=true
 .by_cases h0:0<=(XV G.st k).2.to
  .obtain⟨i,hi⟩:=Hu h0;cases hm:G.ms[i]? with
   |none=>
    refine hno (.inr ?_) ?_;.rw[hi];refine ju (.inr ?_);rw[J7]at hm;rw[hok.len];omega
    unfold GS.deliver;rw[an hb,an h0,hi,Hc,hm]
   |some m=>
    obtain⟨c,hc,_,_⟩:=hok.at hm;exact bG hok hc hm (by rw[kO hb hi hm];rfl) (Ad w G c m i k hok hc hm hw hw' hb hi)
  refine hno (.inr (ju (.inl Om))) ?_;unfold GS.deliver;rw[an hb,ac h0]
 refine hno (.inl (by simpa using hb)) ?_;unfold GS.deliver GS.take;rw[ac hb,(zj (by simpa using hb)).2]
def bj{m:MS}(hm:G.ms[i]?=some m):G.propose i cmd=((m.prop cmd).1,G.done i (m.prop cmd).2.1 (m.prop cmd).2.2):=by unfold GS.propose;rw[hm]
def wG(w:GV)(G:GS)(c:MV)(m:MS)(i:Nat)(cmd:Bs)(hcl:cmd.length<=100)(hok:GOk R w G)(hc:w.cs[i]?=some c)(hm:G.ms[i]?=some m)(hw:GW G)(hw':GW (G.propose i cmd).2):
  Tri prog 16 [.pointer (some ⟨w.g,0,none⟩),.int .i64 (i:Int),.string (Qs cmd)] R (Yi c m++yR w G) (λr R' L'=>r=QI [.int .u64 (G.propose i cmd).1.1,.int .u64 (G.propose i cmd).1.2]/\j8 w c (XI i (m.prop cmd).2.1 G.out).1 (G.propose i cmd).2 R' L'):=by
 have hi:=(Gj.1 hm).1;have hmw:=hw.ms m (Gv hm);have hnd:=hok.nd i c m hc hm;rw[bj hm]at hw'|-;let⟨d1,d2,d3,d4⟩:=i6 hi hw' hmw.ap hw.last.1;have d5:=hw.out;refine To func16 ntmps16 λ_ F _ r_ _ _=>?_;try simp[cB]
 refine cS λ_ k1=>Qc (Ps (Ps (Qd (k1 (cS λ_ k2=>Qc (Pm (Pm (Pa (Ca Kp ((ze w i).eq3 (ZQ hc))) (Ps (Qd (k2 (cS λ_ k3=>cS λ_ k4=>Qc ?_))))))))))));refine Pm (Pa (Yv IJ) (Qd (k4 (Qt rfl (Qh (k3 (cS λ_ k5=>Qc ?_)))))));refine Pm (Pa Qe (Pa (Ga Hq JK) ?_));refine Pa (La XH) (Pm (Ra call43 (Cv c.b c.v m cmd hmw hcl hnd) ?_));rintro r R2 L' hR2 ⟨v',vl,rfl,hr,hv',rfl⟩;have hro:=hr.one;try simp[cB]
 refine Pm (Pa (Ql rfl rfl) (Pa (Ql rfl rfl) (Pa (Ql rfl rfl) (Ps (Ps (Ps (Qd (k5 (cE [0,1,9,10,11] ?_)))))))));refine cS λ_ k6=>Qc (Pm (Pm (Pm (Ra call44 (iX w G {c with v:=v'} (m.prop cmd).2.1 i (m.prop cmd).2.2 vl (by exact hok.map (c:=c) hc) hr d1 (hok.els.mono hR2) hv' d2 d3 d4 hmw.ap Om) ?_))));rintro r R3 L' hR3 ⟨vl',vn,css,vo,hels,rfl⟩;try simp[cB]
 exact Qd (k6 (cS λ_ k7=>Qc (Pm (Pm (Ps (Ps (Qd (k7 (Qg (r_ (Er results16 (Yi {c with v:=v',vl:=vl'} (XI i (m.prop cmd).2.1 G.out).1++yR {w with vn:=vn,css:=css,vo:=vo} (G.done i (m.prop cmd).2.1 (m.prop cmd).2.2)) (Hp.le_trans hR2 hR3) ⟨rfl,{c with v:=v',vl:=vl'},vn,css,vo,rfl,by rw[(jU i (m.prop cmd).2.1 G.out).1];exact hv'.mono hR3,hels,rfl⟩)))))))))))
def dq(w:GV)(G:GS)(i:Nat)(cmd:Bs)(hcl:cmd.length<=100)(hok:GOk R w G)(hi:i<G.ms.length)(hw:GW G)(hw':GW (G.propose i cmd).2):
  Tri prog 16 [.pointer (some ⟨w.g,0,none⟩),.int .i64 (i:Int),.string (Qs cmd)] R (YN w G) (λr R' L'=>r=QI [.int .u64 (G.propose i cmd).1.1,.int .u64 (G.propose i cmd).1.2]/\iy w (G.propose i cmd).2 R' L'):=by
 obtain⟨m,hm⟩:∃m,G.ms[i]?=some m:=⟨_,b7 hi⟩;let⟨c,hc,_,_⟩:=hok.at hm;exact bG hok hc hm (m':=(XI i (m.prop cmd).2.1 G.out).1) (by rw[bj hm];rfl) (wG w G c m i cmd hcl hok hc hm hw hw')
def d7{m:MS}(hm:G.ms[i]?=some m):G.compact i=(m.comp.1,{G with ms:=G.ms.set i m.comp.2}):=by unfold GS.compact;rw[hm]
def wI(w:GV)(G:GS)(c:MV)(m:MS)(i:Nat)(hok:GOk R w G)(hc:w.cs[i]?=some c)(hm:G.ms[i]?=some m)(hw:GW G):
  Tri prog 32 [.pointer (some ⟨w.g,0,none⟩),.int .i64 (i:Int)] R (Yi c m++yR w G) (λr R' L'=>r=.int .i64 (G.compact i).1/\j8 w c m.comp.2 (G.compact i).2 R' L'):=by
 have hmw:=hw.ms m (Gv hm);have hnd:=hok.nd i c m hc hm;rw[d7 hm];refine To func32 ntmps32 λ_ F _ r_ _ _=>?_;try simp[cB]
 refine cS λ_ k1=>Qc (Ps (Qd (k1 (cS λ_ k2=>Qc (Pm (Pm (Pa (Ca Kp ((ze w i).eq3 (ZQ hc))) (Ps (Qd (k2 (cS λ_ k3=>cS λ_ k4=>Qc ?_)))))))))));refine Pm (Pa (Yv IJ) (Qd (k4 (Qt rfl (Qh (k3 (cS λ_ k5=>mG (L:=[gk c m.ap]) [0,1,2,3,4,5,6,7,8,9,10,11] [12] [13,14] (Wc rfl Qf (Wc rfl (Qe rfl) ?_)))))))));refine Wc rfl (Ga Hq JK) ?_;refine Wc rfl (La XH) (Wc rfl (Qf rfl) (Wc rfl (Qe rfl) ?_));refine Wc rfl (Ga Hq Gw) ?_;refine Wc rfl (La QO) (Wc rfl (Qf rfl) (Wc rfl (Qe rfl) ?_));refine Wc rfl (Ga Hq KW) ?_;refine Wc rfl (La so) (Xq (QT rfl ?_));try simp[cC]
 refine cU Qo rfl rfl (λw=>Kr) call172 rfl (BN c.l c.vl m.l hmw.l.2 (Hn hmw.l.1 Dc)) Za (λ_ _ _ _ h=>h.elim) ?_;rintro r R2 L' hR2 ⟨rfl,rfl⟩;try simp[cB]
 refine QU QB Qw (Xt ?_);try simp[cC]
 refine Ra call54 (Cz c.b c.v m hmw (hnd.mono hR2)) ?_;rintro r R3 L' hR3 ⟨rfl,v',hv',rfl⟩;try simp[cB]
 refine Ps (Qd (k5 (cE [4] ?_)));exact Qg (r_ (Er results32 (Yi {c with v:=v'} m.comp.2++yR w G) (Hp.le_trans hR2 hR3) ⟨rfl,{c with v:=v'},w.vn,w.css,w.vo,rfl,hv',hok.els.mono (Hp.le_trans hR2 hR3),rfl⟩))
def rH(w:GV)(G:GS)(i:Nat)(hok:GOk R w G)(hi:i<G.ms.length)(hw:GW G):
  Tri prog 32 [.pointer (some ⟨w.g,0,none⟩),.int .i64 (i:Int)] R (YN w G) (λr R' L'=>r=.int .i64 (G.compact i).1/\iy w (G.compact i).2 R' L'):=by
 obtain⟨m,hm⟩:∃m,G.ms[i]?=some m:=⟨_,b7 hi⟩;let⟨c,hc,_,_⟩:=hok.at hm;exact bG hok hc hm (m':=m.comp.2) (by rw[d7 hm]) (wI w G c m i hok hc hm hw)
def dV{m:MS}{n:Int}(hm:G.ms[i]?=some m):G.fuel i n={G with ms:=G.ms.set i {m with D:=m.D.setFuel n}}:=by unfold GS.fuel;rw[hm]
def wH(w:GV)(G:GS)(c:MV)(m:MS)(i:Nat)(n:Int)(hok:GOk R w G)(hc:w.cs[i]?=some c)(hm:G.ms[i]?=some m):
  Tri prog 30 [.pointer (some ⟨w.g,0,none⟩),.int .i64 (i:Int),.int .i64 n] R (Yi c m++yR w G) (λr R' L'=>True/\j8 w c {m with D:=m.D.setFuel n} (G.fuel i n) R' L'):=by
 have hnd:=hok.nd i c m hc hm;rw[dV hm];refine To func30 ntmps30 λ_ F _ _ n_ _=>?_;try simp[cB]
 refine cS λ_ k1=>Qc (Pm (Pm (Pa (Ca Kp ((ze w i).eq3 (ZQ hc))) (Ps (Qd (k1 (cS λ_ k2=>Qc (Pm ?_))))))));refine Pa (yT IJ) (Qd (k2 (QD rfl (Qc (Pm (Pa Qe (Pa (Ga Hq KA) ?_)))))));refine Pa (La oP) (Pm (Ra call51 (Ep c.b.d c.v.u m.D n) ?_));rintro r R2 L' hR2 ⟨rfl,rfl⟩;try simp[cB]
 exact Qd (n_ (Et results30 (Yi c {m with D:=m.D.setFuel n}++yR w G) (Hp.le_refl _) ⟨trivial,c,w.vn,w.css,w.vo,rfl,hnd,hok.els,rfl⟩))
def Ab(w:GV)(G:GS)(i:Nat)(n:Int)(hok:GOk R w G)(hi:i<G.ms.length):
  Tri prog 30 [.pointer (some ⟨w.g,0,none⟩),.int .i64 (i:Int),.int .i64 n] R (YN w G) (λr R' L'=>iy w (G.fuel i n) R' L'):=by
 obtain⟨m,hm⟩:∃m,G.ms[i]?=some m:=⟨_,b7 hi⟩;let⟨c,hc,_,_⟩:=hok.at hm;exact Tri.mono (bG hok hc hm (by rw[dV hm]) (wH w G c m i n hok hc hm)) (λ_ _ _ _ h=>h.2) (λ_ _ _ _ h=>h)
def nH{c:Cx}{ty:TypeId}{p:String}{af:Array Edge}{g:Option (Nat×Bool)}{x:Operand}{t e:TypeId}{u:Value}(hT:c.P.underlying t=some (.pointer e))(e1:ev E x=some u):Yld c E R L ⟨d,.makeInterface t x,ty,p,af,g⟩ (.iface t u):=λa w hf hs=>by
 have r:(Instr.makeInterface t u).run c.P w=.ok (.iface t u) w:=by
  unfold Instr.makeInterface;simp[run_underlying hT]
 simp[execOp,hf.ev e1,r,Oper.quietUpon]
def CD:Tri prog 20 [] R [] (λr R' L'=>R=R'/\∃b,r=A7 b/\L'=[jD b (.slice none 0 0),Zk (.slice none 0 0) []]):=by
 refine To func20 ntmps20 λ_ F _ r_ _ _=>?_;try simp[cB]
 exact cE [] (cS λ_ k1=>Qc (Ps (Qd (k1 (cS λ_ k2=>Qc (Zb (A:=Zk (.slice none 0 0) []) (Yr _ _) (Pa (Xh (cells:=[_]) [(0,1)] IQ zeroValue105 (λ_=>rfl)) (Xc Qo rfl rfl rfl (λb=>Pa ((nH underlying103 rfl)) (Ps (Qd (k2 (Qg (r_ (Es results20 [jD b (.slice none 0 0),Zk (.slice none 0 0) []] ⟨rfl,b,rfl,rfl⟩)))))))))))))))
def mP(w:GV)(bm bd:Nat)(px im ap:Value)(u:Value)(D:DK)(rs:List Rec)(p:Bs)(g:LG)(i n:Nat)(hc:(w.cs[i]?).map MV.m=some bm)(hn:i<n/\n<=9)(ho:px.oneCell'=true/\im.oneCell'=true)(hD:D.ok 690000000)(hd:D.down=false)(ht:aY D.b rs p g)(hgd:g.down=false)(hop:(D.open rs p).1=0/\(D.open rs p).2.down=false):
  Tri prog 35 [.pointer (some ⟨w.g,0,none⟩),.int .i64 (i:Int),.int .i64 (n:Int)] R [QA bm [.pointer (some ⟨bd,0,none⟩),px,im,ap] 87,Xg bd u D,Xf u D,Zv w,Zl w]
   (λr R' L'=>∃c:MV,c.m=bm/\NOk R' c.v (ND.start i n g)/\L'=Yi c (Zt i n g (D.open rs p).2)++[Zv w,Zl w]):=by
 let⟨c0,hc0,hcm⟩:=I6.1 hc;have hi2:i<w.cs.length:=(Gj.1 hc0).1;have hnth:ZO (yt w.cs) ((i:Int).toNat*1+0)=some (.pointer (some ⟨bm,0,none⟩)):=by rw[Hc,qr];simp[yt,hc0,hcm]
 let⟨h1,h2,h3⟩:=ht;let⟨h4,h5⟩:=hop;have hgs:=(Plays.okR h3).state;have hop2:=Eb (R:=R) bd u D 690000000 rs p g hD Om h1 h2 h3;rw[h4]at hop2;refine To func35 ntmps35 λ_ F _ _ n_ _=>?_;try simp[cB]
 refine cS λ_ k1=>Qc (Pm (Pa Qe (Pa (Ga Ii Kz) ?_)));refine Pa (La oO) (Pm (Pa ((Xn (sz:=1) (n:=w.cs.length) Jd Mx)) (Pa ((XC Ed rfl Qm hnth)) (Ps (Qd (k1 (cS λ_ k2=>Qc ?_)))))));refine Pm (Pa Qe (Pa (Ga Hq KA) ?_));refine Pa (La oP) (Ra call56 (hop2) ?_);rintro r R2 L' hR2 ⟨pl,u2,rfl,(⟨_,hx,_⟩|⟨bl,va,rfl,_,hva,rfl⟩)⟩;exact Gr rfl hx;try simp[cB]
 refine Pm (Pa (Ql rfl rfl) (Pa (Ql rfl rfl) (Ps (Ps (Qd (k2 (cS λ_ k3=>Qc (Pm (Pm (Pm (Pm (Ra call57 (BO bl bd i n u2 va g (D.open rs p).2 hn hva) ?_))))))))))));rintro r R3 L' hR3 (⟨hx,_,_⟩|⟨_,bx,rfl,hv,rfl⟩);simp[hgd,h5]at hx;try simp[cB]
 refine Pm (Pa (Ql rfl rfl) (Pa (Ql rfl rfl) (Pa Qe (Pa (Ga Hq JK) ?_))));refine Sa XH (Qd (k3 (cE [0,6,7] ?_)));refine cS λ_ k4=>Qc (Pm (Pm (Pm (Pa Qe (Pa (Ga Ii sizeOf49) ?_)))));refine Pa (La Gf) (xF Qo rfl rfl call20 rfl (CD) Za (λ_ _ _ _ h=>h.elim) ?_);rintro r R4 L' hR4 ⟨rfl,bl2,rfl,rfl⟩;try simp[cB]
 refine Pa Qe (Pa (Ga Hq KW) (Sa so (Pa Qe (Pa (Ga Hq Gw) ?_))));refine Sa QO (Qd (k4 (cS λ_ k5=>Qc (Pm ?_))));refine Pa (Ca LF (jT bl (some ⟨bd,0,none⟩) va g)) (Pm (Pa (Ql rfl rfl) (Pa (Ql rfl rfl) (Pa (Ql rfl rfl) (Ps (Ps (Ps (Qd (k5 (cE [6,9,11] ?_))))))))));refine cS λ_ k6=>Qc (Pm (Pa XG (Qd (k6 (Qi rfl (λhc55=>?_) (λhc55=>?_))))));have f1:g.base>0:=by simpa using hc55
 have e1:Zt i n g (D.open rs p).2=⟨ND.start i n g,(D.open rs p).2,ZC g.state,g.base⟩:=by unfold Zt;rw[an f1]
 refine cS λ_ k8=>Qc (Pm (Pa Qe (Pa (Ga Hq KW) ?_)));refine Pa (La so) (Pm (cU Qo rfl rfl (λw=>Kr) call171 rfl (my bl2 (.slice none 0 0) [] g.state Om) Za (λ_ _ _ _ h=>h.elim) ?_));rintro r R5 L' hR5 ⟨rfl,vl3,rfl⟩;try simp[cB]
 refine Qd (k8 (Qc (Pm (Pm (Pa Qe (Pa (Ga Hq Gw) ?_))))));refine Sa QO (Qd (n_ (Et results35 (Yi ⟨bm,⟨bx,bl,bd⟩,bl2,NV.new u2 va,vl3⟩ ⟨ND.start i n g,(D.open rs p).2,ZC g.state,g.base⟩++[Zv w,Zl w]) (by first|exact Hp.le_trans hR2 (Hp.le_trans hR3 hR5)|exact Hp.le_trans hR2 hR3) ?_)));rw[e1];exact⟨⟨bm,⟨bx,bl,bd⟩,bl2,NV.new u2 va,vl3⟩,rfl,hv.mono hR5,rfl⟩;have f1:¬g.base>0:=by simpa using hc55
 have e1:Zt i n g (D.open rs p).2=⟨ND.start i n g,(D.open rs p).2,[],0⟩:=by unfold Zt;rw[ac f1]
 refine Qh (n_ (Et results35 (Yi ⟨bm,⟨bx,bl,bd⟩,bl2,NV.new u2 va,.slice none 0 0⟩ ⟨ND.start i n g,(D.open rs p).2,[],0⟩++[Zv w,Zl w]) (by first|exact Hp.le_trans hR2 (Hp.le_trans hR3 hR5)|exact Hp.le_trans hR2 hR3) ?_));rw[e1];exact⟨⟨bm,⟨bx,bl,bd⟩,bl2,NV.new u2 va,.slice none 0 0⟩,rfl,hv,rfl⟩
def Plays.down:∀{rs:List Rec} {g h:LG},Plays g rs h->h.down=g.down
 |_,_,_,.nil _ _=>rfl
 |_,_,_,.cons _ _ _ p=>by rw[Plays.down p,cW]
def Ec{rs:List Rec}{p:Bs}(h1:D.down=false)(h2:D.bound=false):(D.open rs p).1=0/\(D.open rs p).2.down=false/\(D.open rs p).2.bound=false:=by
 unfold DK.open;rw[ac (by rw[h1];decide)];split;.exact⟨rfl,h1,h2⟩
 unfold DK.swap;rw[fK ⟨h1,h2⟩];exact⟨rfl,h1,h2⟩
def DK.crash_ok{m:Nat}(h:D.ok m)(keep:Int):(D.crash keep).ok m:=by
 let⟨k1,k2,k3,k4,k5⟩:=h;have hkl:D.keeps keep<=D.b.length:=by unfold DK.keeps;omega
 have hbl:(D.crash keep).b.length=D.keeps keep:=by unfold DK.crash;simp;omega
 exact⟨by show D.keeps keep<=_;rw[hbl];exact Gl _,by rw[hbl];omega,k3,k4,λh=>by have h:false=true:=h;cases h⟩
def nE(D:DK)(keep:Int):Prop:=∃rs p g,aY (D.crash keep).b rs p g
def jX{m:MS}{keep:Int}(hm:G.ms[i]?=some m):G.crash i keep={G with ms:=G.ms.set i (m.crash i G.ms.length keep)}:=by unfold GS.crash;rw[hm]
def ta(m:MS)(i n:Nat)(keep:Int):(m.crash i n keep).x=ND.start i n (fH (m.D.crash keep).b):=by
 unfold MS.crash Zt;split<;>rfl
def uB(w:GV)(G:GS)(c:MV)(m:MS)(i:Nat)(keep:Int)(hok:GOk R w G)(hc:w.cs[i]?=some c)(hm:G.ms[i]?=some m)(hw:GW G)(ho:nE m.D keep):
  Tri prog 12 [.pointer (some ⟨w.g,0,none⟩),.int .i64 (i:Int),.int .i64 keep] R (Yi c m++yR w G) (λr R' L'=>True/\j8 w c (m.crash i G.ms.length keep) (G.crash i keep) R' L'):=by
 have hi:=(Gj.1 hm).1;have hmw:=hw.ms m (Gv hm);have hn:=hw.n;have ht:=nU ho;have hoc:=Ec (D:=m.D.crash keep) (rs:=fF (m.D.crash keep).b) (p:=fG (m.D.crash keep).b) rfl rfl;have hst:=λ(R:Hp) (u:Value)=>mP (R:=R) w c.m c.b.d (.pointer (some ⟨c.b.x,0,none⟩)) (A7 c.l) (.int .u64 m.ap) u (m.D.crash keep) _ _ _ i G.ms.length (hok.map hc) ⟨hi,hn⟩ ⟨rfl,rfl⟩ (DK.crash_ok hmw.ok keep) rfl ht (ht.2.2.down) ⟨hoc.1,hoc.2.1⟩;rw[jX hm];refine To func12 ntmps12 λ_ F _ _ n_ _=>?_;try simp[cB]
 refine cS λ_ k1=>Qc (Pm (Pm (Pa (Ca Kp ((ze w i).eq3 (ZQ hc))) (Ps (Qd (k1 (cS λ_ k2=>Qc ?_)))))));refine Pm (Pa (yT IJ) (Qd (k2 (QD rfl (cS λ_ k3=>Qc ?_)))));refine Pm (Pa Qe (Pa (Ga Hq KA) ?_));refine Pa (La oP) (Pm (Ra call34 (CZ c.b.d c.v.u m.D 690000000 hmw.ok Om keep) ?_));rintro r R2 L' hR2 ⟨rfl,u2,rfl⟩;have hst2:=hst R u2;rw[<-hok.len]at hst2;try simp[cB]
 refine Qd (k3 (Qc (Pm (Pm (Pm (Pa Qe (Pa (Ga Ii Kz) ?_)))))));refine Pa (La oO) (Pa (Zf Jd) (Ra call35 (hst2) ?_));rintro r R3 L' hR3 ⟨c',hcm,hv',rfl⟩;rw[hok.len]at hv'|-;try simp[cB]
 exact Qd (n_ (Et results12 (Yi c' (m.crash i G.ms.length keep)++yR w {G with ms:=G.ms.set i (m.crash i G.ms.length keep)}) hR3 ⟨trivial,c',w.vn,w.css,w.vo,hcm,by rw[ta];exact hv',hok.els.mono hR3,rfl⟩))
def mQ(w:GV)(G:GS)(i:Nat)(keep:Int)(hok:GOk R w G)(hi:i<G.ms.length)(hw:GW G)(ho:∀m,G.ms[i]?=some m->nE m.D keep):
  Tri prog 12 [.pointer (some ⟨w.g,0,none⟩),.int .i64 (i:Int),.int .i64 keep] R (YN w G) (λr R' L'=>iy w (G.crash i keep) R' L'):=by
 obtain⟨m,hm⟩:∃m,G.ms[i]?=some m:=⟨_,b7 hi⟩;let⟨c,hc,_,_⟩:=hok.at hm;exact Tri.mono (bG hok hc hm (by rw[jX hm]) (uB w G c m i keep hok hc hm hw (ho m hm))) (λ_ _ _ _ h=>h.2) (λ_ _ _ _ h=>h)
def lw{P:Program}(n:Nat){t:TypeId}{a b:Array TypeId}{v:Bool}{f:Fn}{cs:Array Value}(hT:P.underlying t=some (.func a b v)):(Op.equalIn (n+1) t (.func f fs cs) .nilFunc).run P w=.ok false w:=by
 simp[Op.equalIn,run_underlying hT]
def oj{P:Program}{t:TypeId}{a b:Array TypeId}{v:Bool}{f:Fn}{cs:Array Value}(hT:P.underlying t=some (.func a b v)):(Op.equal t (.func f fs cs) .nilFunc).run P w=.ok false w:=lw 9999 hT
def Dh{c:Cx}{ty:TypeId}{p:String}{af:Array Edge}{g:Option (Nat×Bool)}{x y:Operand}{t t':TypeId}{a b:Array TypeId}{v:Bool}{f:Fn}{cs:Array Value}(hT:c.P.underlying t=some (.func a b v))(e1:ev E x=some (.func f fs cs))(e2:ev E y=some .nilFunc):
  Yld c E R L ⟨d,.binOp .eql t x y t',ty,p,af,g⟩ (.bool false):=
 λ_ w hf _=>by simp[execOp,hf.ev e1,hf.ev e2,eqGuard,binOp,oj hT,Oper.quietUpon]
def wN(l:List (List Qj))(As:List Qj):Find (gA As) ((l++[As]).map gA) (l.map gA):=by
 induction l with
 |nil=>exact .head _
 |cons B l ih=>exact .tail ih
def w7(g:Hp)(k:stars [gA As,Yj l] g):Yj (l++[As]) g:=by
 let⟨h1,h2,a,b,c,d,k1,_,a2,_,_,d2,_⟩:=k;exact(wN l As).back ⟨h1,k1,a,Hp.le_trans a2 b,Hp.dis_le c a2,d,d2⟩
def Sat.bigSnoc{σ:World}(hS:Sub L (As++Yj l::M))(hs:Sat σ R L w):Sat σ R (Yj (l++[As])::M) w:=
 Sat.join (A:=Yj (l++[As])) (As:=[gA As,Yj l]) w7 (Sat.join (A:=gA As) (As:=As) (λ_ k=>k) (hs.sub hS))
def t7{c:Cx}{ops:Array Oper}{Q:Exit->Act->World->Prop}{o:List Oper}(hS:Sub L (As++Yj l::M))(h:RJ c ops Q o E R (Yj (l++[As])::M)):RJ c ops Q o E R L:=λa w hf hs=>h a w hf (hs.bigSnoc hS)
def aE(n k:Nat):GS:=⟨(List.range k).map λi=>Zt i n LG.new DK.new,[],0,[]⟩
def eO(n k:Nat):(aE n k).ms.length=k:=by simp[aE]
def ws(h:cs.length=ms.length)(c:MV)(m:MS):Zw cs ms++[Yi c m]=Zw (cs++[c]) (ms++[m]):=by
 unfold Zw;rw[List.zipWith_append h];rfl
def mD(n k:Nat):(aE n (k+1)).ms=(aE n k).ms++[Zt k n LG.new DK.new]:=by simp[aE,JQ]
def ED:aY DK.new.b [] [] LG.new:=⟨rfl,eu,.nil _ LG.new_ok⟩
def ku(b:Nat):MV:=⟨b,⟨0,0,0⟩,0,NV.new (.slice none 0 0) (.slice none 0 0),.slice none 0 0⟩
def ga(cs:List MV)(c:MV):yt cs++[.pointer (some ⟨c.m,0,none⟩)]=yt (cs++[c]):=by simp[yt]
def wE{R':Hp}{w:GV}{c':MV}(hok:GOk R w (aE n k))(hwn:w.cs.length=k)(hR:R.le R')(hv:NOk R' c'.v (ND.start k n LG.new))(va:Value):GOk R' {w with va:=va,cs:=w.cs++[c']} (aE n (k+1)):=by
 refine⟨by rw[eO];simp[hwn],λi c m hc hm=>?_,hok.els.mono hR⟩;rw[mD]at hm;dsimp only at hc;by_cases hi:i<k;.rw[GG (by rw[hwn];exact hi)]at hc;rw[GG (by rw[eO];exact hi)]at hm;exact(hok.nd i c m hc hm).mono hR
 rw[GY Om,hwn]at hc;rw[GY (by rw[eO];omega),eO]at hm;by_cases h0:i-k=0
 .rw[h0]at hc hm;simp at hc hm;subst hc;subst hm;have e:(Zt k n LG.new DK.new).x=ND.start k n LG.new:=by unfold Zt;split<;>rfl
  rw[e];exact hv
 rw[Ho (by simp;omega)]at hc;cases hc
def sK(n:Nat)(hn:1<=n/\n<=9):Tri prog 19 [.int .i64 (n:Int),FX] R []
  (λr R' L'=>∃w,r=QI [.pointer (some ⟨w.g,0,none⟩),.int .i64 0]/\GOk R' w (GS.new n)/\L'=YN w (GS.new n)):=by
 refine To func19 ntmps19 λ_ F _ r_ _ _=>?_
 try simp[cB]
 refine cS λ_ k1=>Qc (Ps (Ps (Qd (k1 (cS λ_ k2=>cS λ_ k3=>Qc (Pm ?_))))))
 refine Pa ((Yld.to (u:=.bool false) QR (by rw[decide_eq_false Om]))) (Pm (Pb Qf (Pb ((Yld.to (u:=.bool false) XG (by rw[decide_eq_false Om]))) (Pa Qn (Pm (Pb Qf (Pb ((Dh underlying49 rfl rfl)) (Pa Qn (Qd (k3 (Qt rfl (Qh (k2 (cS λ_ k4=>Qc (Pm (Ra call46 (y6) ?_))))))))))))))))
 rintro r R1 L' hR1 ⟨rfl,bn,rfl,rfl⟩
 refine Zb (A:=QN 81 1 (.slice none 0 0) 0 []) (Yr _ _) (Zb (A:=cZ (.slice none 0 0) []) (Yr _ _) (Zb (A:=Yj []) (λ_=>trivial) ?_))
 try simp[cB]
 refine Pa (Xh (cells:=[_,_,_,_]) [(0,1),(1,1),(2,1),(3,1)] Ii zeroValue90 (λ_=>rfl)) (Xc Qo rfl rfl rfl (λbg=>Ps (Qd (k4 (cS λ_ k5=>cS λ_ k6=>Qc (Pm (Pm (Qd (k6 (Qp (Lp (λ(x:Nat×GV×Hp)=>[(0,.int .i64 (n:Int)),(6,.pointer (some ⟨x.2.1.g,0,none⟩)),(23,.int .i64 (n:Int)),(24,.int .i64 (x.1:Int))]) (λx=>x.2.2) (λx=>YN x.2.1 (aE n x.1)++F) (λx=>x.1<=n/\x.2.1.cs.length=x.1/\GOk x.2.2 x.2.1 (aE n x.1)/\R.le x.2.2) (λx=>n-x.1) (0,⟨bg,.slice none 0 0,bn,.slice none 0 0,[],.slice none 0 0,[]⟩,R) (⟨by simp,rfl,⟨rfl,λi c m hc _=>(by simp at hc),Els.nil⟩,Hp.le_refl _⟩) ?_)))))))))))
 rintro⟨k,w,R4⟩ ⟨hk,hwn,hok,hR4⟩
 try dsimp only
 dsimp only at hk hwn hok hR4
 refine cS λ_ k7=>Qc (Pa QR (Qd (k7 (cS λ_ k8=>Qi rfl (λhc25=>?_) (λhc25=>?_)))))
 try simp[dx]at hc25
 refine Qh (k8 (cS λ_ k10=>Qp (cS λ_ k11=>Qc (Pm (Ps (Qd (k11 (cS λ_ k12=>?_))))))))
 have hk2:k<n:=by(try simp at hc25);omega
 refine Qc (Ra call47 (Fv) ?_)
 rintro r R2 L' hR2 ⟨rfl,bd,u0,rfl,rfl⟩
 try simp[cB]
 refine Pa (Xh (cells:=[_,_,_,_]) [(0,1),(1,1),(2,1),(3,1)] Hq zeroValue87 (λ_=>rfl)) (Xc Qo rfl rfl rfl (λbm=>Ps (Qd (k12 (cE [0,6,7,8,23,24] ?_)))))
 refine cS λ_ k13=>Qc (Pm (Pm (Pa Qe (Pa (Ga Ii Kz) ?_))))
 refine Pa (La oO) (Pm (Qv (sz:=1) Qo rfl Jd Mx zeroValue81 rfl rfl rfl Dc Dc (λbz=>QZ (sz:=1) (by_:=8) ⟨Jd,_,_,rfl,rfl,rfl,rfl,rfl⟩ Qo rfl rfl rfl Qm (XL (xs:=[.pointer (some ⟨bm,0,none⟩)]) Jd Qm (by(first|(simp[Value.oneCell'];done)|(intro u hu;simp[Gn,Gs,G7]at hu;rcases hu with rfl|rfl|rfl|rfl<;>first|rfl|assumption)))) rfl Qu (by simp[maxLen];omega) (λv37 ho37 hh37=>?_))))
 rw[show yt w.cs++[.pointer (some ⟨bm,0,none⟩)]=yt (w.cs++[ku bm])from ga w.cs (ku bm),show w.cs.length+1=(w.cs++[ku bm]).length by simp]
 refine Pa Qe (Pa (Ga Ii Kz) (Sa oO (Qd (k13 (Qc (Pm (Pm (Pm ?_))))))))
 have hst:=mP (R:=R4) {w with va:=v37,cs:=w.cs++[ku bm]} bm bd (.pointer none) .nilIface (.int .u64 0) u0 DK.new [] [] LG.new k n (by simp[<-hwn,ku]) ⟨hk2,hn.2⟩ ⟨rfl,rfl⟩ (by exact⟨by decide,by decide,by decide,by decide,by decide⟩) rfl ED rfl ⟨rfl,rfl⟩
 rw[show(DK.new.open [] []).2=DK.new from rfl]at hst
 refine Ra call35 (hst) ?_
 rintro r R5 L' hR5 ⟨c',hcm,hv',rfl⟩
 refine t7 (l:=Zw w.cs (aE n k).ms) (As:=Yi c' (Zt k n LG.new DK.new)) Qw ?_
 have hgs:Zl {w with va:=v37,cs:=w.cs++[ku bm]}=Zl {w with va:=v37,cs:=w.cs++[c']}:=by unfold Zl;dsimp only;rw[<-ga w.cs (ku bm),<-ga w.cs c',hcm];simp[ku]
 refine XM (A:=Zl {w with va:=v37,cs:=w.cs++[ku bm]}) (B:=Zl {w with va:=v37,cs:=w.cs++[c']}) Qm (λh hh=>hgs▸hh) ?_
 have hok2:GOk R5 {w with va:=v37,cs:=w.cs++[c']} (aE n (k+1)):=wE hok hwn hR5 hv' v37
 rw[ws hok.len,<-mD]
 try simp[cB]
 refine Qd (k10 (Qc (Pa Qz (Pm (Qd (ro rfl (rd ((k+1,{w with va:=v37,cs:=w.cs++[c']},R5)) (⟨by dsimp only;omega,by simp[hwn],hok2,Hp.le_trans hR4 hR5⟩) Do)))))))
 try simp[dx]at hc25
 refine QG (k5 (cS λ_ k14=>?_))
 obtain rfl:k=n:=by(try simp at hc25);omega
 exact Qc (Pm (Ps (Ps (Qd (k14 (Qg (r_ (Er results19 (YN w (aE k k)) hR4 ⟨w,rfl,hok,rfl⟩))))))))
def QTri.split{P:Program}(h:QTri P f args R pre v)(s:Split L pre F):QTri P f args R L v:=λσ G w hs=>by
 have s2:=s.app G;refine(h σ (F++G) w (s2.sat hs)).mono λe w' ⟨he,hw⟩=>⟨he,s2.satBack hw⟩
def QTri.mem{P:Program}{m:MS}(hc:cs[i]?=some c)(hm:ms[i]?=some m)(h:QTri P f args R pre v)(s:Split (Yi c m) pre F):QTri P f args R [Yj (Zw cs ms)] v:=
 QTri.big (yK hc hm) (h.split (by simpa using s))
@[reducible] def yd (w : GV) (G : GS) : Qj := Yj (Zw w.cs G.ms)
section
variable{R:Hp}{w:GV}{G:GS}{i:Nat}{c:MV}{m:MS}
def dU(hc:w.cs[i]?=some c)(hm:G.ms[i]?=some m):QTri prog 22 [.pointer (some ⟨w.g,0,none⟩),.int .i64 (i:Int)] R [yd w G,Zv w,Zl w] (.pointer (some ⟨c.b.x,0,none⟩)):=QTri.big (yK hc hm) (Aa w c m i hc)
def eX(hc:w.cs[i]?=some c)(hm:G.ms[i]?=some m):QTri prog 18 [.pointer (some ⟨w.g,0,none⟩),.int .i64 (i:Int)] R [yd w G,Zv w,Zl w] (.int .u64 m.ap):=QTri.big (yK hc hm) (rI w c m i hc)
def kH(hc:w.cs[i]?=some c)(hm:G.ms[i]?=some m):QTri prog 17 [.pointer (some ⟨w.g,0,none⟩),.int .i64 (i:Int)] R [yd w G,Zv w,Zl w] c.vl:=QTri.big (yK hc hm) (FK w c m i hc)
def mR(hc:w.cs[i]?=some c)(hm:G.ms[i]?=some m):QTri prog 58 [.pointer (some ⟨c.b.x,0,none⟩)] R [yd w G] (.int .i64 m.x.leader):=QTri.mem hc hm (um c.b c.v m.x) Za
def lS(hc:w.cs[i]?=some c)(hm:G.ms[i]?=some m):QTri prog 38 [.pointer (some ⟨c.b.x,0,none⟩)] R [yd w G] (.int .i64 m.x.role):=QTri.mem hc hm (iN c.b c.v m.x) Za
def mS(hc:w.cs[i]?=some c)(hm:G.ms[i]?=some m):QTri prog 39 [.pointer (some ⟨c.b.x,0,none⟩)] R [yd w G] (.int .u64 m.x.commit):=QTri.mem hc hm (kr c.b c.v m.x) Za
def aw(hc:w.cs[i]?=some c)(hm:G.ms[i]?=some m):QTri prog 23 [.pointer (some ⟨c.b.x,0,none⟩)] R [yd w G] (.pointer (some ⟨c.b.l,0,none⟩)):=QTri.mem hc hm (lG c.b c.v m.x) Za
def sM(hc:w.cs[i]?=some c)(hm:G.ms[i]?=some m):QTri prog 37 [.pointer (some ⟨c.b.x,0,none⟩)] R [yd w G] (.bool m.dn):=QTri.mem hc hm (yZ c.b c.v m.x m.D) Za
def gX(hc:w.cs[i]?=some c)(hm:G.ms[i]?=some m):QTri prog 24 [.pointer (some ⟨c.b.l,0,none⟩)] R [yd w G] (.int .u64 m.x.g.term):=QTri.mem hc hm (ZN c.b.l (some ⟨c.b.d,0,none⟩) c.v.va m.x.g) Za
def sO(hc:w.cs[i]?=some c)(hm:G.ms[i]?=some m):QTri prog 25 [.pointer (some ⟨c.b.l,0,none⟩)] R [yd w G] (QI [.int .u64 m.x.g.base,.int .u64 m.x.g.baseT,.string (Qs m.x.g.state)]):=QTri.mem hc hm (jT c.b.l (some ⟨c.b.d,0,none⟩) c.v.va m.x.g) Za
def A8(hc:w.cs[i]?=some c)(hm:G.ms[i]?=some m)(hv:NOk R c.v m.x)(hg:m.x.g.ok){k:Int}(hk:QQ k):QTri prog 40 [.pointer (some ⟨c.b.l,0,none⟩),.int .u64 k] R [yd w G] (uJ (m.x.g.at k)):=QTri.mem hc hm (gq c.b.l (some ⟨c.b.d,0,none⟩) c.v.va m.x.g hg hv.va k hk) Za
end
def wK(w:GV)(i:Int)(h:i<0\/(w.cs.length:Int)<=i):QTri prog 22 [.pointer (some ⟨w.g,0,none⟩),.int .i64 i] R [Zv w,Zl w] (.pointer none):=by
 have ha:=(ze (R:=R) w i).eq3 (ju h);refine Tri.q (To func22 ntmps22 λ_ F _ r_ _ _=>?_);try simp[cB]
 refine cS λ_ k1=>Qc (Ps (Qd (k1 (cS λ_ k2=>cS λ_ k3=>Qc (Pm (Pm ?_))))));refine Pa (Ca Kp (ha)) (Ps (Qd (k3 (cS λ_ k4=>Qc ?_))));exact Pm (Pa (yT IJ) (Qd (k4 (Qt rfl (Qh (k2 (cE [] (cS λ_ k5=>Qc (Ps (Qd (k5 (Qg (r_ (Es results22 [Zv w,Zl w] ⟨rfl,rfl,rfl⟩))))))))))))))
def ndNoRole_q:QTri prog 38 [.pointer none] R [] (.int .i64 0):=by
 refine Tri.q (To func38 ntmps38 λ_ F _ r_ _ _=>?_);try simp[cB]
 exact cS λ_ k1=>Qc (Ps (Qd (k1 (cS λ_ k2=>cS λ_ k3=>Qc (Pm (Pa (Yv JV) (Qd (k3 (QD rfl (cS λ_ k4=>Qc (Ps (Qd (k4 (Qg (r_ (Es results38 [] ⟨rfl,rfl,rfl⟩))))))))))))))))
def GS.leader(G:GS)(i:Nat):Int:=match G.ms[i]? with|some m=>m.x.leader|none=> -1
def GS.term(G:GS)(i:Nat):Int:=match G.ms[i]? with|some m=>m.x.g.term|none=>0
def GS.role(G:GS)(i:Int):Int:=if 0<=i then(match G.ms[i.toNat]? with|some m=>m.x.role|none=>0)else 0
def GS.alike(G:GS)(k:Nat):Bool:=(List.range k).all λi=>decide (G.leader i=G.leader 0/\G.term i=G.term 0)
def GS.leads(G:GS)(n:Nat):Int×Bool:=if G.alike n=true then(G.leader 0,decide (¬G.leader 0= -1)&&decide (G.role (G.leader 0)=2))else(-1,false)
def uR(h:G.alike k=true):G.alike (k+1)=decide (G.leader k=G.leader 0/\G.term k=G.term 0):=by
 unfold GS.alike at*;rw[JQ,List.all_append,h];simp
def re(hk:k<n)(h:¬(G.leader k=G.leader 0/\G.term k=G.term 0)):¬G.alike n=true:=λha=>by
 unfold GS.alike at ha;rw[Hm]at ha;exact h (IY (ha k (by simpa using hk)))
def GS.at_l{m:MS}(hm:G.ms[i]?=some m):G.leader i=m.x.leader/\G.term i=m.x.g.term/\G.role (i:Int)=m.x.role:=by
 unfold GS.leader GS.term GS.role;rw[an Om,Hc,hm];exact⟨rfl,rfl,rfl⟩
def CS{w:GV}(hl:w.cs.length=G.ms.length)(i:Int):∃p,QTri prog 22 [.pointer (some ⟨w.g,0,none⟩),.int .i64 i] R [yd w G,Zv w,Zl w] (.pointer p)/\QTri prog 38 [.pointer p] R [yd w G] (.int .i64 (G.role i)):=by
 by_cases h:0<=i/\i<G.ms.length;.obtain⟨i,rfl⟩:=Hu h.1;obtain⟨m,hm⟩:∃m,G.ms[i]?=some m:=⟨_,b7 Om⟩;obtain⟨c,hc⟩:∃c,w.cs[i]?=some c:=⟨_,b7 Om⟩;exact⟨_,dU hc hm,by rw[(GS.at_l hm).2.2];exact lS hc hm⟩
 refine⟨none,(wK w i Om).split (F:=[yd w G]) Za,?_⟩;have e:G.role i=0:=by
  unfold GS.role;by_cases h0:0<=i;.rw[an h0,Ho Om]
  rw[ac h0]
 rw[e];exact ndNoRole_q.split (F:=[yd w G]) Za
def CE(w:GV)(G:GS)(n:Nat)(hl:w.cs.length=G.ms.length)(hn:0<n/\n<=G.ms.length)(hn9:n<=9):QTri prog 36 [.pointer (some ⟨w.g,0,none⟩),.int .i64 (n:Int)] R [yd w G,Zv w,Zl w] (QI [.int .i64 (G.leads n).1,.bool (G.leads n).2]):=by
 obtain⟨m0,hm0⟩:∃m,G.ms[0]?=some m:=⟨_,b7 Om⟩
 obtain⟨c0,hc0⟩:∃c,w.cs[0]?=some c:=⟨_,b7 Om⟩
 let⟨l0,t0,_⟩:=GS.at_l hm0
 have hnd0:=dU (R:=R) (i:=0) hc0 hm0
 let⟨pw,hpw,hpr⟩:=CS (R:=R) hl (G.leader 0)
 refine Tri.q (To func36 ntmps36 λ_ F _ r_ _ _=>?_)
 try simp[cB]
 refine cS λ_ k1=>Qc (Ps (Ps (Qd (k1 (cS λ_ k2=>Qc (Pm (Pa (Ca Mh (hnd0)) (Pa (Ca call58 ((mR hc0 hm0).eq3 (by rw[<-l0]))) (Ps (Qd (k2 (cS λ_ k3=>cS λ_ k4=>Qc (Pm (Pm (Qd (k4 (Qp (Lp (λ(x:Nat)=>[(0,.pointer (some ⟨w.g,0,none⟩)),(6,.int .i64 (G.leader 0)),(12,.int .i64 (n:Int)),(13,.int .i64 (x:Int))]) (λx=>R) (λx=>yd w G::Zv w::Zl w::F) (λx=>x<=n/\G.alike x=true) (λx=>n-x) 0 (⟨Om,rfl⟩) ?_))))))))))))))))))
 rintro k ⟨hk,ha⟩
 try dsimp only
 refine cS λ_ k5=>Qc (Pa QR (Qd (k5 (cS λ_ k6=>Qi rfl (λhc14=>?_) (λhc14=>?_)))))
 try simp[dx]at hc14
 refine Qh (k6 (cS λ_ k8=>Qp (cS λ_ k9=>Qc (Pm (Ps (Qd (k9 (cS λ_ k10=>?_))))))))
 have hk2:k<n:=by(try simp at hc14);omega
 obtain⟨m,hm⟩:∃m,G.ms[k]?=some m:=⟨_,b7 Om⟩
 obtain⟨c,hc⟩:∃c,w.cs[k]?=some c:=⟨_,b7 Om⟩
 let⟨lk,tk,_⟩:=GS.at_l hm
 refine Qc (Pm (Pm (Pa (Ca Mh (dU hc hm)) (Ps (Qd (k10 (cS λ_ k11=>Qc (Pm (Pa (Ca call58 ((mR hc hm).eq3 (by rw[<-lk]))) (Pm (Pa Yp (Pm (QM 23 rfl (λhg23=>?_) (λhg23=>?_))))))))))))))
 try simp[dx]at hg23
 refine Pk (Pk (Pk (Pk (Pk (Pk (Pk (Pk (Pa Qq (Qd (k11 (cE [0,6,12,13,32] (QD rfl (cS λ_ k12=>Qc (Ps (Ps (Qd (k12 (Qg (r_ (Es L5 [yd w G,Zv w,Zl w] ?_))))))))))))))))))))
 have hno:¬(G.leader k=G.leader 0/\G.term k=G.term 0):=by simp_all
 rw[show G.leads n=(-1,false)by unfold GS.leads;rw[ac (re hk2 hno)]];exact⟨rfl,rfl,rfl⟩
 try simp[dx]at hg23
 refine Pb Qf (Pb (Ca KB (aw hc hm)) (Pb (Ca Jz ((gX hc hm).eq3 (by rw[<-tk]))) (Pb Qf (Pb (Ca Mh (hnd0)) (Pb (Ca KB (aw hc0 hm0)) (Pb (Ca Jz ((gX hc0 hm0).eq3 (by rw[<-t0]))) (Pb Yp (Pa Qn (Qd (k11 (Qi rfl (λhc32=>?_) (λhc32=>?_))))))))))))
 try simp[dx]at hc32
 refine cS λ_ k14=>Qc (Ps (Ps (Qd (k14 (Qg (r_ (Es L5 [yd w G,Zv w,Zl w] ?_)))))))
 have hno:¬(G.leader k=G.leader 0/\G.term k=G.term 0):=by simp_all
 rw[show G.leads n=(-1,false)by unfold GS.leads;rw[ac (re hk2 hno)]];exact⟨rfl,rfl,rfl⟩
 try simp[dx]at hc32
 refine Qh (k8 (Qc (Pa Qz (Pm (Qd (ro rfl (rd (k+1) (⟨Om,by rw[uR ha];simp_all⟩) Om)))))))
 try simp[dx]at hc14
 refine QG (k3 (cS λ_ k15=>?_))
 have hkn:k=n:=by(try simp at hc14);omega
 have el:G.leads n=(G.leader 0,decide (¬G.leader 0= -1)&&decide (G.role (G.leader 0)=2)):=by unfold GS.leads;rw[an (by rw[<-hkn];exact ha)]
 refine Qc (Pm (Pm (Pa Yp (Pm (QM 37 rfl (λhg37=>?_) (λhg37=>?_))))))
 try simp[dx]at hg37
 refine Pb Qf (Pb Qf (Pb (Ca Mh (hpw)) (Pb (Ca MT (hpr)) (Pb QL (Pa Qq (Ps (Ps (Qd (k15 (cE [4,5] (Qg (r_ ?_))))))))))))
 refine Es L5 [yd w G,Zv w,Zl w] ?_
 refine⟨?_,rfl,rfl⟩;rw[el];simp_all[QI]
 try simp[dx]at hg37
 refine Pk (Pk (Pk (Pk (Pk (Pa Qn (Ps (Ps (Qd (k15 (Qg (r_ (Es L5 [yd w G,Zv w,Zl w] ?_))))))))))))
 refine⟨?_,rfl,rfl⟩;rw[el];simp_all[QI]
end V
end Go.Proofs.YtenfjpigffjgmaaGreat
