/- Parts: T3p T8l. -/
import Derived.Test.YtenfjpigffjgmaaGreatWL11Lives0
import Derived.Test.YtenfjpigffjgmaaGreatProg
import Derived.KernelRfl
import Derived.Defers
import Derived.Recover
import Derived.Laws.StructEq
set_option linter.defProp false
namespace Go.Proofs.YtenfjpigffjgmaaGreat
namespace V
variable{R:Hp}{i m cap:Nat}{v:Value}{a:Act}{cs cy cx:List Value}{css:List (List Value)}{k:Int}{e:Qy}{P:Program}{D:DK}{q:Option Addr}{bad:Bool}{t s':List UInt8}{fn:Func}{w:World}{E:Env}
inductive Nd
 |mk (kind:Int) (n:Nat) (s:List UInt8) (kids:List Nd)
variable{x y:Nd}{l ks:List Nd}
namespace Nd
def kind:Nd->Int|mk k _ _ _=>k
def n:Nd->Nat|mk _ n _ _=>n
def s:Nd->List UInt8|mk _ _ s _=>s
def kids:Nd->List Nd|mk _ _ _ l=>l
end Nd
def yk:Nd:=.mk 0 0 [] []
def XF(n:Nat):List UInt8:=if n=0 then[]else XF (n/256)++[UInt8.ofNat (n%256)]
termination_by n
decreasing_by omega
def XO(n:Nat):List UInt8:=if n<128 then[UInt8.ofNat n]else UInt8.ofNat (n%128+128)::XO (n/128)
termination_by n
decreasing_by omega
mutual
def wr:Nd->List UInt8
 | .mk k n s kids=>if k=0 then 110::(XO (XF n).length++XF n)else if k=1 then 115::(XO s.length++s)else 108::(XO kids.length++YZ kids)
def YZ:List Nd->List UInt8
 |[]=>[]
 |x::l=>wr x++YZ l
end
def Xu:Nat->Nd->Bool
 |0,_=>false
 |d+1,.mk k n s kids=>if k=0 then s.isEmpty&&kids.isEmpty else if k=1 then(n==0)&&kids.isEmpty else if k=2 then(n==0)&&s.isEmpty&&kids.all (Xu d)else false
def zM(l:List UInt8):Nat:=l.foldl (λx b=>x*256+b.toNat) 0
def ZE:Nat->Nat->Nat->List UInt8->Option (Nat×List UInt8)
 |0,_,_,_=>none
 |_+1,_,_,[]=>none
 |f+1,i,acc,b::r=>if b.toNat<128 then(if b.toNat=0/\i>0 then none else some (acc+b.toNat*128^i,r))else ZE f (i+1) (acc+(b.toNat-128)*128^i) r
def yO(f:List UInt8->Option (Nd×List UInt8)):Nat->List UInt8->Option (List Nd×List UInt8)
 |0,s=>some ([],s)
 |n+1,s=>match f s with
  |none=>none
  |some (x,r)=>match yO f n r with
   |none=>none
   |some (l,r')=>some (x::l,r')
def Yy:Nat->List UInt8->Option (Nd×List UInt8)
 |0,_=>none
 |_+1,[]=>none
 |d+1,k::r=>match ZE 4 0 0 r with
  |none=>none
  |some (n,r)=>
   if k=110 then(if n>8\/r.length<n\/(n>0/\r.head?=some 0)then none else some (.mk 0 (zM (r.take n)) [] [],r.drop n))
   else if k=115 then(if r.length<n then none else some (.mk 1 0 (r.take n) [],r.drop n))
   else if k=108 then(match yO (Yy d) n r with
    |none=>none
    |some (l,r')=>some (.mk 2 0 [] l,r'))
   else none
def j5(l:List UInt8)(b:UInt8):zM (l++[b])=zM l*256+b.toNat:=by simp[zM]
def YS(n:Nat)(h:n<256):(UInt8.ofNat n).toNat=n:=by simp;omega
def jQ{n:Nat}(h:n≠0):XF n=XF (n/256)++[UInt8.ofNat (n%256)]:=by rw[XF];simp[h]
def yo:XF 0=[]:=by rw[XF];simp
def p8(n:Nat):zM (XF n)=n:=by
 induction n using Nat.strongRecOn with
 |_ n ih=>
  by_cases h:n=0;.subst h;rw[yo];rfl
  rw[jQ h,j5,ih (n/256) Om,YS _ Om];omega
def wk(n:Nat):(XF n).head?≠some 0:=by
 induction n using Nat.strongRecOn with
 |_ n ih=>
  by_cases h:n=0;.subst h;rw[yo];simp
  rw[jQ h];by_cases h2:n/256=0;.rw[h2,yo];simp[Hr,List.head?_cons,ne_eq,Hi];intro e;have:=GM UInt8.toNat e;rw[YS _ Om]at this;simp at this;omega
  have:=ih (n/256) Om;cases hh:XF (n/256)with
  |nil=>
   have h3:=p8 (n/256);rw[hh]at h3;exact Gr h3.symm h2
  |cons x l=>rw[hh]at this;simpa using this
def zJ(k:Nat):∀n,n<256^k->(XF n).length<=k:=by
 induction k with
 | zero => intro n h;have:n=0:=by simpa using h
           subst this;rw[yo];simp
 |succ k ih=>
   intro n h;by_cases h0:n=0;.subst h0;rw[yo];simp
   rw[jQ h0,Gm];have:=ih (n/256) (by rw[In]at h;omega);simp;omega
def BW{P:List UInt8->Prop}(h0:P [])(h1:∀l b,P l->P (l++[b]))(l:List UInt8):P l:=by
 rw[<-l.reverse_reverse];induction l.reverse with
 |nil=>exact h0
 |cons x m ih=>rw[List.reverse_cons];exact h1 _ _ ih
def EU(l:List UInt8):zM l<256^l.length:=by
 induction l using BW with
 |h0=>simp[zM]
 |h1 l b ih=>
  rw[j5,Gm,Mt,In];have:=b.toNat_lt;omega
def YW{n:Nat}(h:n<128):XO n=[UInt8.ofNat n]:=by rw[XO];simp[h]
def jd{n:Nat}(h:¬n<128):XO n=UInt8.ofNat (n%128+128)::XO (n/128):=by rw[XO];simp[h]
def ml:∀(f i acc n:Nat) (r:List UInt8),n<128^(f+1)->(i>0->n≠0)->ZE (f+1) i acc (XO n++r)=some (acc+n*128^i,r)
 |0,i,acc,n,r,h,h0=>by
  have hn:n<128:=by simpa using h
  rw[YW hn]
  simp only[HW,Hr,ZE]
  rw[YS _ Om,an hn,ac (by rintro⟨e,hi⟩;exact h0 hi e)]
 |f+1,i,acc,n,r,h,h0=>by
  by_cases hn:n<128
  .rw[YW hn]
   simp only[HW,Hr,ZE]
   rw[YS _ Om,an hn,ac (by rintro⟨e,hi⟩;exact h0 hi e)]
  .rw[jd hn]
   rw[HW,ZE]
   rw[YS _ Om,ac Om]
   rw[ml f (i+1) _ (n/128) r (by rw[In]at h;omega) (λ_=>Om)]
   congr 2
   rw[In,Nat.add_sub_cancel,HQ]
   congr 1
   have:n=n%128+128*(n/128):=Om
   generalize hp:128^i=p
   conv=>rhs;rw[this]
   rw[G4]
   congr 1
   rw[I0 p 128,<-Nat.mul_assoc,I0 (n/128) 128]
def r6:∀(f i acc:Nat) (s:List UInt8) (n:Nat) (r:List UInt8),ZE f i acc s=some (n,r)->∃m,n=acc+m*128^i/\s=XO m++r/\m<128^f/\(i>0->m≠0)
 |0,i,acc,s,n,r,h=>by cases h
 |f+1,i,acc,[],n,r,h=>by cases h
 |f+1,i,acc,b::s,n,r,h=>by
  rw[ZE]at h;split at h
  .rename_i hb;split at h;.cases h
   rename_i h0;simp[Hi,KP]at h;let⟨rfl,rfl⟩:=h;refine⟨b.toNat,rfl,by rw[YW hb];simp,?_,λhi e=>h0 ⟨e,hi⟩⟩;have:1<=128^f:=Nat.one_le_pow _ _ Om;rw[In];omega
  rename_i hb;let⟨m,h1,h2,h3,h4⟩:=r6 f (i+1) _ s n r h;have hbl:=b.toNat_lt;have hm:=h4 Om;refine⟨(b.toNat-128)+128*m,?_,?_,by rw[In];omega,λ_=>by omega⟩;.rw[h1,In,HQ];congr 1;generalize 128^i=p;rw[G4];congr 1;rw[I0 p 128,<-Nat.mul_assoc,I0 m 128]
  rw[jd Om,show(b.toNat-128+128*m)%128+128=b.toNat by omega,show(b.toNat-128+128*m)/128=m by omega,HW,<-h2];simp
def iB{n:Nat}{r:List UInt8}(h:n<268435456):ZE 4 0 0 (XO n++r)=some (n,r):=by
 have:=ml 3 0 0 n r (by simpa using h) Si;simpa using this
def DC{s r:List UInt8}{n:Nat}(h:ZE 4 0 0 s=some (n,r)):s=XO n++r/\n<268435456:=by
 let⟨m,h1,h2,h3,_⟩:=r6 4 0 0 s n r h;have e:n=m:=by simpa using h1
 subst e;exact⟨h2,by simpa using h3⟩
def iD(n:Nat):1<=(XO n).length:=by
 by_cases h:n<128;.rw[YW h];simp
 rw[jd h];simp
def uU(x:Nd):2<=(wr x).length:=by
 cases x with|mk k n s l=>
 have h1:=iD (XF n).length;have h2:=iD s.length;have h3:=iD l.length;rw[wr];split;.simp;omega
 split<;>simp<;>omega
def rP:∀l:List Nd,2*l.length<=(YZ l).length
 |[]=>Si
 |x::l=>by rw[YZ];have:=uU x;have:=rP l;simp;omega
inductive OkN:Nd->Prop
 |mk {k:Int} {n:Nat} {s:List UInt8} {l:List Nd}:n<18446744073709551616->(∀x∈l,OkN x)->OkN (.mk k n s l)
def sg{d:Nat}(ih:∀(x:Nd) (rest:List UInt8),OkN x->Xu d x=true->(wr x).length<268435456->Yy d (wr x++rest)=some (x,rest)):
  ∀(l:List Nd) (rest:List UInt8),(∀x∈l,OkN x)->l.all (Xu d)=true->(YZ l).length<268435456->yO (Yy d) l.length (YZ l++rest)=some (l,rest)
 |[],rest,_,_,_=>by simp[YZ,yO]
 |x::l,rest,ho,hr,hl=>by
  rw[YZ]at hl|-
  simp only[Gm]at hl
  simp only[List.all_cons,G6]at hr
  rw[GA,GD,yO,ih x _ (ho x Si) hr.1 Om]
  simp only
  rw[sg ih l rest (λy hy=>ho y (by simp[hy])) hr.2 Om]
def Fg:∀(d:Nat) (x:Nd) (rest:List UInt8),OkN x->Xu d x=true->(wr x).length<268435456->Yy d (wr x++rest)=some (x,rest):=by
 intro d;induction d with
 |zero=>intro x rest _ h;simp[Xu]at h
 |succ d ih=>
  intro x rest ho hr hl;cases ho with
  |mk hn hk=>
  rename_i k n s l;simp only[Xu]at hr;rw[wr]at hl|-;by_cases h0:k=0
  .subst h0;simp only[if_true]at hr hl|-;simp only[G6,Lr]at hr;obtain⟨rfl,rfl⟩:=hr;simp only[GD,Gm]at hl;rw[HW,GA,Yy,iB Om];have h8:(XF n).length<=8:=zJ 8 n Om;simp only[if_true]
   rw[ac (by
    rintro(h|h|h);.omega
    .simp at h;omega
    have:=wk n;cases hb:XF n with
    |nil=>rw[hb]at h;simp at h
    |cons b l=>rw[hb]at h this;simp at h this;exact this h)]
   simp[p8]
  by_cases h1:k=1;.subst h1;simp only[h0,if_false,if_true]at hr hl|-;simp only[G6,Lr,MY]at hr;obtain⟨rfl,rfl⟩:=hr;simp only[GD,Gm]at hl;rw[HW,GA,Yy,iB Om];simp
  by_cases h2:k=2;.subst h2;simp only[h0,h1,if_false,if_true]at hr hl|-;simp only[G6,Lr,MY]at hr;obtain⟨⟨rfl,rfl⟩,hr⟩:=hr;simp only[GD,Gm]at hl;have:=rP l;rw[HW,GA,Yy,iB Om];simp only;rw[ac Dc,ac Dc,an trivial,sg ih l rest hk hr Om]
  simp[h0,h1,h2]at hr
mutual
def yf:Nd->Nat
 | .mk _ _ _ l=>qz l+1
def qz:List Nd->Nat
 |[]=>0
 |x::l=>max (yf x) (qz l)
end
mutual
def Yz:Nd->Bool
 | .mk k n s l=>if k=0 then s.isEmpty&&l.isEmpty else if k=1 then(n==0)&&l.isEmpty else if k=2 then(n==0)&&s.isEmpty&&jv l else false
def jv:List Nd->Bool
 |[]=>true
 |x::l=>Yz x&&jv l
end
def deepL_le{d:Nat}:∀{l:List Nd},qz l<=d↔∀x∈l,yf x<=d
 |[]=>by simp[qz]
 |x::l=>by rw[qz,Nat.max_le,deepL_le (l:=l)];simp
def plainL_iff:∀{l:List Nd},jv l=true↔∀x∈l,Yz x=true
 |[]=>by simp[jv]
 |x::l=>by rw[jv,G6,plainL_iff (l:=l)];simp
def uL(hx:l[i]?=some x):qz (l.take (i+1))=max (qz (l.take i)) (yf x):=by
 have key:∀(m:List Nd),qz (m++[x])=max (qz m) (yf x):=by
  intro m;induction m with
  |nil=>simp[qz]
  |cons y m ih=>rw[HW,qz,ih,qz,Nat.max_assoc]
 rw[HV,hx];exact key _
def wU(x:Nd):1<=yf x:=by cases x;rw[yf];omega
def il:∀(d:Nat) (x:Nd),Xu d x=(decide (yf x<=d)&&Yz x):=by
 intro d;induction d with
 |zero=>intro x;have:=wU x;simp[Xu];omega
 |succ d ih=>
  intro x;cases x with|mk k n s l=>
  rw[Xu,Yz,yf];have hd:(decide (qz l+1<=d+1))=decide (qz l<=d):=Si;rw[hd];by_cases h0:k=0
  .subst h0;simp;cases l with
   |nil=>simp[qz]
   |cons=>simp
  by_cases h1:k=1
  .subst h1;simp;cases l with
   |nil=>simp[qz]
   |cons=>simp
  by_cases h2:k=2
  .subst h2;simp[h0,h1,if_false,if_true];have:l.all (Xu d)=(decide (qz l<=d)&&jv l):=by
    rw[Bool.eq_iff_iff,Hm,G6,HR,deepL_le,plainL_iff];simp[ih,G6,HR];exact⟨λh=>⟨λx hx=>(h x hx).1,λx hx=>(h x hx).2⟩,λh x hx=>⟨h.1 x hx,h.2 x hx⟩⟩
   rw[this];cases(n==0&&s.isEmpty)<;>simp
  simp[h0,h1,h2]
def Zn(n:Nat):Nat:=if n=0 then 0 else Zn (n/2)+1
termination_by n
decreasing_by omega
def zL:Zn 0=0:=by rw[Zn];simp
def aU{n:Nat}(h:n≠0):Zn n=Zn (n/2)+1:=by rw[Zn];simp[h]
def zi:∀(k n:Nat),2^k<=n->Zn n=k+Zn (n/2^k)
 |0,n,_=>Si
 |k+1,n,h=>by
  rw[In]at h;have hp:1<=2^k:=M0;rw[aU Om,zi k (n/2) Om,Mn,In,I0 2];omega
def df:∀(k n:Nat),n<2^k->Zn n<=k
 | 0, n, h => by have:n=0:=by simpa using h
                 subst this;rw[zL];exact Gl _
 |k+1,n,h=>by
   by_cases h0:n=0
   . subst h0;rw[zL];omega
   . rw[aU h0]
     have:=df k (n/2) (by rw[In]at h;omega)
     omega
def wm(n:Nat):(XF n).length=(Zn n+7)/8:=by
 induction n using Nat.strongRecOn with
 |_ n ih=>
  by_cases h0:n=0;.subst h0;rw[yo,zL];rfl
  rw[jQ h0,Gm,ih (n/256) Om];by_cases h1:n<256
  .have h2:n/256=0:=by omega
   have h3:=df 8 n (by simpa using h1);have h4:1<=Zn n:=by rw[aU h0];omega
   rw[h2,zL];simp;omega
  have:=zi 8 n (by simp;omega);simp at this;simp;omega
def y4(n:Nat):∀i,i<(XF n).length->(XF n)[i]?=some (UInt8.ofNat (n/256^((XF n).length-1-i)%256)):=by
 induction n using Nat.strongRecOn with
 |_ n ih=>
  intro i hi;by_cases h0:n=0;.subst h0;rw[yo]at hi;simp at hi
  rw[jQ h0]at hi|-;simp only[Gm,Mt]at hi|-;rcases HK i (XF (n/256)).length with h|h
  .rw[GG h,ih (n/256) Om i h];congr 3;rw[Mn,show(XF (n/256)).length+1-1-i=((XF (n/256)).length-1-i)+1 by omega,In,I0]
  have:i=(XF (n/256)).length:=by omega
  subst this;rw[GY (Gl _)];simp
def ZU:∀(k n:Nat),n<128^(k+1)->(XO n).length<=k+1
 |0,n,h=>by rw[YW (by simpa using h)];simp
 |k+1,n,h=>by
  by_cases hn:n<128;.rw[YW hn];simp
  rw[jd hn,GD];have:=ZU k (n/128) (by rw[In]at h;omega);omega
set_option linter.unusedSimpArgs false
set_option linter.unusedVariables false
set_option maxRecDepth 100000
open Go.RowKit
open Go.Proofs.Tryz
def big:Nat:=1000000000000
inductive RepN (R:Hp):Nd->List Value->Prop
 |mk {k:Int} {n:Nat} {s:List UInt8} {l:List Nd} {q:Option Addr} {cap:Nat} (css:List (List Value)):s.length<=big->l.length<=big->css.length=l.length->l.length<=cap->cap<=maxLen->
   (∀(i:Nat) (x:Nd) (cs:List Value),l[i]?=some x->css[i]?=some cs->cs.length=4)->(∀(i:Nat) (x:Nd) (cs:List Value),l[i]?=some x->css[i]?=some cs->RepN R x cs)->
   (l=[]\/∃b off,q=some ⟨b,off,none⟩/\∀(i:Nat) (cs:List Value) (j:Nat) (u:Value),css[i]?=some cs->cs[j]?=some u->Hp.cell R ⟨b,off+i*4+j,none⟩=some u)->
   RepN R (.mk k n s l) [.int .i64 k,.int .u64 (n:Int),.string (Qs s),.slice q l.length cap]
def RepL(R:Hp)(l:List Nd)(q:Option Addr)(cap:Nat):Prop:=∃css:List (List Value),l.length<=big/\css.length=l.length/\l.length<=cap/\cap<=maxLen/\
 (∀(i:Nat) (x:Nd) (cs:List Value),l[i]?=some x->css[i]?=some cs->cs.length=4)/\(∀(i:Nat) (x:Nd) (cs:List Value),l[i]?=some x->css[i]?=some cs->RepN R x cs)/\
 (l=[]\/∃b off,q=some ⟨b,off,none⟩/\∀(i:Nat) (cs:List Value) (j:Nat) (u:Value),css[i]?=some cs->cs[j]?=some u->Hp.cell R ⟨b,off+i*4+j,none⟩=some u)
def RepN.mono{R':Hp}(hR:R.le R')(h:RepN R x cs):RepN R' x cs:=by
 induction h with
 |mk css h1 h2 h3 h4 h5 h6 _ h8 ih=>
  refine .mk css h1 h2 h3 h4 h5 h6 ih ?_;rcases h8 with h|⟨b,off,hq,hc⟩
  .exact .inl h
  exact .inr ⟨b,off,hq,λi cs j u hi hj=>by
   have e:=hc i cs j u hi hj;unfold Hp.cell at*;cases hb:R b with
   |none=>simp[hb]at e
   |some o=>simp[hb]at e;simp[hR _ _ hb];exact e⟩
def RepN.inv(h:RepN R x cs):∃k n s l q cap,x=.mk k n s l/\cs=[.int .i64 k,.int .u64 ((n:Nat):Int),.string (Qs s),.slice q l.length cap]/\s.length<=big/\RepL R l q cap:=by
 cases h with
 |mk css h1 h2 h3 h4 h5 h6 h7 h8=>exact⟨_,_,_,_,_,_,rfl,rfl,h1,css,h2,h3,h4,h5,h6,h7,h8⟩
def RepL.node{n:Nat}{s:List UInt8}(hs:s.length<=big)(h:RepL R l q cap):RepN R (.mk k n s l) [.int .i64 k,.int .u64 (n:Int),.string (Qs s),.slice q l.length cap]:=by
 let⟨css,h2,h3,h4,h5,h6,h7,h8⟩:=h;exact .mk css hs h2 h3 h4 h5 h6 h7 h8
def RepL.nil(R:Hp):RepL R [] none 0:=⟨[],Si,rfl,Si,by simp[maxLen],Si,Si,.inl rfl⟩
def RepL.at(h:RepL R l q cap)(hx:l[i]?=some x):∃b off cs,q=some ⟨b,off,none⟩/\cs.length=4/\RepN R x cs/\∀(j:Nat) u,cs[j]?=some u->Hp.cell R ⟨b,off+i*4+j,none⟩=some u:=by
 let⟨css,h2,h3,h4,h5,h6,h7,h8⟩:=h;have hi:i<l.length:=(Gj.1 hx).1;have hc:css[i]?=some (css[i]'Om):=by simp[h3,hi]
 rcases h8 with rfl|⟨b,off,hq,hcell⟩;.simp at hi
 exact⟨b,off,css[i]'Om,hq,h6 i x _ hx hc,h7 i x _ hx hc,λj u hj=>hcell i _ j u hc hj⟩
set_option maxHeartbeats 1000000
def ZX(l:List Nd):decide (l=[])=l.isEmpty:=by cases l<;>rfl
def aB(l:List Nd)(f:Nd->Bool):(l.any λy=> !f y)= !l.all f:=by rw[List.all_eq_not_any_not,Bool.not_not]
def xH(e bd:Nat)(y:Nd)(cy:List Value)(h:RepN R y cy)(he:e<=20)(hr:QTri prog 145 [.agg ⟨cy⟩,.int .i64 (e:Int)] R [] (.bool (Xu e y))):
  QTri prog 151 [.agg ⟨cy⟩,.pointer (some ⟨bd,0,none⟩)] R [QA bd [.int .i64 ((e+1:Nat):Int)] 3] (.bool (!Xu e y)):=by
 obtain⟨k,n,s,l,q,cap,rfl,rfl,hs,hl⟩:=h.inv;refine Tri.q (To func151 ntmps151 λ_ F _ r_ _ _=>?_);try simp[cB]
 exact cS λ_ k1=>Qc (Xc Qo rfl rfl rfl (λb2=>Ps (Qd (k1 (cS λ_ k2=>Qc (Pa (Lb QF) (Pa (La o3) (Pa Zs (Xx 6 rfl (v':=.int .i64 (e:Int)) (by congr 1;omega) (Pa (Ca call145 (hr)) (Pa Xa (Ps (Qd (k2 (Qg (r_ (Es results151 [QA bd [.int .i64 ((e+1:Nat):Int)] 3] ⟨rfl,rfl,rfl⟩)))))))))))))))))
def rF(l:List Nd)(q:Option Addr)(cap:Nat)(hl:RepL R l q cap)(bd:Nat)(D:Qj)(p:Nd->Bool)
  (hcall:∀x cs,x∈l->RepN R x cs->QTri prog 151 [.agg ⟨cs⟩,.pointer (some ⟨bd,0,none⟩)] R [D] (.bool (p x))):
  Tri prog 153 [.slice q l.length cap,.func (.func 151) ⟨[]⟩ ⟨[.pointer (some ⟨bd,0,none⟩)]⟩] R [D]
   (λv R' L'=>R=R'/\(∃z:Int,v=.int .i64 z/\(z>=0↔l.any p=true))/\L'=[D]):=by
 have hlb:l.length<=big:=hl.choose_spec.1;unfold big at hlb;refine To func153 ntmps153 λ_ F _ r_ _ _=>?_;try simp[cB]
 refine cS λ_ k1=>Qc (Ps (Qd (k1 (cS λ_ k2=>cS λ_ k3=>Qc (Pm (Pa (QV Gy) (Pm (Qd (k3 (Qp (Lp (λ(x:Nat)=>[(0,.slice q l.length cap),(1,.func (.func 151) ⟨[]⟩ ⟨[.pointer (some ⟨bd,0,none⟩)]⟩),(7,.int .i64 (l.length:Int)),(8,.int .i64 (x:Int))]) (λx=>R) (λx=>D::F) (λx=>x<=l.length/\(l.take x).any p=false) (λx=>l.length-x) 0 (⟨Si,Si⟩) ?_)))))))))));rintro i ⟨hi,hall⟩;try dsimp only
 refine cS λ_ k4=>Qc (Pa QR (Qd (k4 (cS λ_ k5=>Qi rfl (λhc9=>?_) (λhc9=>?_)))));try simp[dx]at hc9
 refine Qh (k5 (cS λ_ k7=>Qp (cS λ_ k8=>Qc ?_)));obtain⟨x,hx⟩:∃x,l[i]?=some x:=⟨l[i]'Om,Si⟩;obtain⟨b,off,cs,rfl,hc4,hrep,hcell⟩:=hl.at hx;refine Pm (Ps (Qd (k8 (cS λ_ k9=>Qc ?_))));refine Pm (Pm (Pm ?_));refine Pa (QE Gy HB) (Pa ((Yq QF (vs:=cs) hc4 rfl (λj u hj=>by simpa using hcell j u hj))) (Pa (rO rfl call151 rfl (hcall x cs (Gv hx) hrep) Za) (Qd (k9 (Qi rfl (λhc16=>?_) (λhc16=>?_))))));try simp[dx]at hc16
 refine cS λ_ k11=>Qc (Pm (Ps (Qd (k11 (Qg (r_ (Es results153 [D] ?_)))))));refine⟨rfl,⟨_,rfl,?_⟩,rfl⟩;simp;exact⟨x,Gv hx,hc16⟩;try simp[dx]at hc16
 refine Qh (k7 (Qc (Pa Qz (Pm (Qd (ro rfl (rd (i+1) (⟨Om,by rw[HV,hx];simp[hall,hc16]⟩) Om)))))));try simp[dx]at hc9
 refine QG (k2 (cE [] (cS λ_ k12=>Qc (Ps (Qd (k12 (Qg (r_ (Es results153 [D] ?_)))))))));refine⟨rfl,⟨_,rfl,?_⟩,rfl⟩;rw[Gx Om]at hall;rw[hall];simp
def lX(l:List Nd)(q:Option Addr)(cap:Nat)(hl:RepL R l q cap)(bd:Nat)(D:Qj)(p:Nd->Bool)
  (hcall:∀x cs,x∈l->RepN R x cs->QTri prog 151 [.agg ⟨cs⟩,.pointer (some ⟨bd,0,none⟩)] R [D] (.bool (p x))):
  Tri prog 150 [.slice q l.length cap,.func (.func 151) ⟨[]⟩ ⟨[.pointer (some ⟨bd,0,none⟩)]⟩] R [D]
   (λv R' L'=>R=R'/\v=.bool (l.any p)/\L'=[D]):=by
 refine To func150 ntmps150 λ_ F _ r_ _ _=>?_;try simp[cB]
 refine cS λ_ k1=>Qc (Ps (Qd (k1 (cS λ_ k2=>Qc (Pm (Pm (Ra call153 (rF l q cap hl bd D p hcall) ?_)))))));rintro v R' L' hR ⟨rfl,⟨z,rfl,hz⟩,rfl⟩;try simp[cB]
 exact Pa ZP (Xx 8 rfl (v':=.bool (l.any p)) (by congr 1;rw[Bool.eq_iff_iff];simpa using hz) (Ps (Qd (k2 (Qg (r_ (Es results150 [D] ⟨rfl,rfl,rfl⟩)))))))
def B6(d:Nat):∀(x:Nd) (cs:List Value) {R:Hp},RepN R x cs->d<=20->QTri prog 145 [.agg ⟨cs⟩,.int .i64 (d:Int)] R [] (.bool (Xu d x)):=by
 induction d using Nat.strongRecOn with
 |_ d ih=>
 intro x cs R h hd;obtain⟨k,n,s,l,q,cap,rfl,rfl,hs,hl⟩:=h.inv;refine Tri.q (To func145 ntmps145 λ_ F _ r_ _ _=>?_);try simp[cB]
 refine cS λ_ k1=>Qc (Xc Qo rfl rfl rfl (λb2=>Xc Qo rfl rfl rfl (λbd=>Ps (Qd (k1 (cS λ_ k2=>cS λ_ k3=>Qc (Pa (La o3) (Pa QL (Qd (k3 (Qi rfl (λhc6=>?_) (λhc6=>?_))))))))))));try simp[dx]at hc6
 refine cS λ_ k5=>Qc (Ps (Qd (k5 (Qg (r_ (Es Jr [] ?_))))));refine⟨?_,rfl,rfl⟩;obtain rfl:d=0:=Om;simp[Xu,QI]
 (try simp[dx]at hc6);obtain⟨e,rfl⟩:∃e,d=e+1:=⟨d-1,Om⟩
 refine Qh (k2 (cS λ_ k6=>cS λ_ k7=>Qc (Pa (Ga Gq GQ) (Pa (La o3) (Qd (k7 (Qp (cS λ_ k8=>Qc (Pa QL (Ps (Qd (k8 (Qi rfl (λhc9=>?_) (λhc9=>?_))))))))))))));try simp[dx]at hc9
 refine cS λ_ k10=>Qc (Pa (Ga Gq Ic) (Pa (La o9) (Pa bH (Pm (QM 14 rfl (λhg14=>?_) (λhg14=>?_))))));try simp[dx]at hg14
 refine Pb (Ga Gq HP) (Pb (La YY) (Pb (QV Gy) (Pb QL (Pa Qq (Ps (Qd (k10 (cE [4] (Qg (r_ ?_))))))))));refine Es Jr [] ?_;refine⟨?_,rfl,rfl⟩;simp_all[Xu,QI]<;>first|exact ZX _|exact aB _ _
 try simp[dx]at hg14
 refine Pk (Pk (Pk (Pk (Pa Qn (Ps (Qd (k10 (Qg (r_ (Es Jr [] ?_))))))))));refine⟨?_,rfl,rfl⟩;simp_all[Xu,QI]<;>first|exact ZX _|exact aB _ _
 try simp[dx]at hc9
 refine cS λ_ k11=>Qc (Pa QL (Ps (Qd (k11 (Qi rfl (λhc20=>?_) (λhc20=>?_))))));try simp[dx]at hc20
 refine cS λ_ k13=>Qc (Pa (Ga Gq Gw) (Pa (La QO) (Pa QL (Pm (QM 25 rfl (λhg25=>?_) (λhg25=>?_))))));try simp[dx]at hg25
 refine Pb (Ga Gq HP) (Pb (La YY) (Pb (QV Gy) (Pb QL (Pa Qq (Ps (Qd (k13 (cE [4] (Qg (r_ ?_))))))))));refine Es Jr [] ?_;refine⟨?_,rfl,rfl⟩;simp_all[Xu,QI]<;>first|exact ZX _|exact aB _ _
 try simp[dx]at hg25
 refine Pk (Pk (Pk (Pk (Pa Qn (Ps (Qd (k13 (Qg (r_ (Es Jr [] ?_))))))))));refine⟨?_,rfl,rfl⟩;simp_all[Xu,QI]<;>first|exact ZX _|exact aB _ _
 try simp[dx]at hc20
 refine cS λ_ k14=>Qc (Pa QL (Ps (Qd (k14 (Qi rfl (λhc31=>?_) (λhc31=>?_))))));try simp[dx]at hc31
 refine cS λ_ k16=>Qc (Pa (Ga Gq Gw) (Pa (La QO) (Pa QL (Pm (QM 36 rfl (λhg36=>?_) (λhg36=>?_))))));try simp[dx]at hg36
 refine Pb (Ga Gq Ic) (Pb (La o9) (Pb bH (Pa Qq (Pm (QM 41 rfl (λhg41=>?_) (λhg41=>?_))))));try simp[dx]at hg41
 refine Pb (Ga Gq HP) (Pb (La YY) (Pb Zo (XW (cP rfl) rfl call150 rfl (lX l q cap hl bd (QA bd [.int .i64 ((e+1:Nat):Int)] 3) (λy=> !Xu e y) (λy cy hy hry=>xH e bd y cy hry Om (ih e Om y cy hry Om))) Za (λ_ _ _ _ h=>h.elim) ?_)));rintro v R' L' hR ⟨rfl,rfl,rfl⟩;try simp[cB]
 refine Pb Xa (Pa Qq (Ps (Qd (k16 (cE [4] (Qg (r_ ?_)))))));refine Es Jr [] ?_;refine⟨?_,rfl,rfl⟩;simp_all[Xu,QI]<;>first|exact ZX _|exact aB _ _
 try simp[dx]at hg41
 refine Pk (Pk (Pk (Pk (Pk (Pa Qn (Ps (Qd (k16 (Qg (r_ (Es Jr [] ?_)))))))))));refine⟨?_,rfl,rfl⟩;simp_all[Xu,QI]<;>first|exact ZX _|exact aB _ _
 try simp[dx]at hg36
 refine Pk (Pk (Pk (Pa Qn (Pm (Pk (Pk (Pk (Pk (Pk (Pa Qn (Ps (Qd (k16 (cE [4] (Qg (r_ ?_))))))))))))))));refine Es Jr [] ?_;refine⟨?_,rfl,rfl⟩;simp_all[Xu,QI]<;>first|exact ZX _|exact aB _ _
 try simp[dx]at hc31
 refine Qh (k6 (cE [] (cS λ_ k17=>Qc (Ps (Qd (k17 (Qg (r_ (Es Jr [] ?_)))))))));refine⟨?_,rfl,rfl⟩;simp_all[Xu,QI]<;>first|exact ZX _|exact aB _ _
set_option maxHeartbeats 1000000
noncomputable def same{α:Type}(x y:α):Bool:= @decide (x=y) (Classical.propDecidable _)
def yC(n:Int):QTri prog 95 [.int .u64 n] R [] (.agg ⟨[.int .i64 0,.int .u64 n,.string (Qs []),.slice none 0 0]⟩):=by
 refine Tri.q (To func95 ntmps95 λ_ F _ r_ _ _=>?_);try simp[cB]
 refine cS λ_ k1=>Qc (QC Qo rfl GK rfl (λb2=>Qd (k1 (cS λ_ k2=>Qc (Pm (Pa (Xh (cells:=[_,_,_,_]) [(0,1),(1,1),(2,1),(3,1)] Gq GK (λ_=>rfl) rfl rfl) ?_))))));refine Qr QF rfl Qo rfl rfl (by(first|(simp[Value.oneCell'];done)|(intro u hu;simp[Gn,Gs,G7]at hu;rcases hu with rfl|rfl|rfl|rfl<;>first|rfl|assumption))) Qm (by(simp)) rfl ?_;exact Qd (k2 (Qg (r_ (Ea results95 (.cons (QP QF) .nil) [] QB ⟨rfl,rfl,rfl⟩))))
def oQ(s:List UInt8):QTri prog 114 [.string (Qs s)] R [] (.agg ⟨[.int .i64 1,.int .u64 0,.string (Qs s),.slice none 0 0]⟩):=by
 refine Tri.q (To func114 ntmps114 λ_ F _ r_ _ _=>?_);try simp[cB]
 refine cS λ_ k1=>Qc (QC Qo rfl GK rfl (λb2=>Qd (k1 (cS λ_ k2=>Qc (Pm (Pa (Xh (cells:=[_,_,_,_]) [(0,1),(1,1),(2,1),(3,1)] Gq GK (λ_=>rfl) rfl rfl) ?_))))));refine Qr QF rfl Qo rfl rfl (by(first|(simp[Value.oneCell'];done)|(intro u hu;simp[Gn,Gs,G7]at hu;rcases hu with rfl|rfl|rfl|rfl<;>first|rfl|assumption))) Qm (by(simp)) rfl ?_;exact Qd (k2 (Qg (r_ (Ea results114 (.cons (QP QF) .nil) [] QB ⟨rfl,rfl,rfl⟩))))
def wC(x:Nd)(cs:List Value)(h:RepN R x cs):QTri prog 135 [.agg ⟨cs⟩] R [] (.bool (Xu 20 x)):=by
 obtain⟨k,n,s,l,q,cap,rfl,rfl,hs,hl⟩:=h.inv;refine Tri.q (To func135 ntmps135 λ_ F _ r_ _ _=>?_);try simp[cB]
 exact cS λ_ k1=>Qc (Xc Qo rfl rfl rfl (λb1=>Ps (Qd (k1 (cS λ_ k2=>Qc (Pa (Lb QF) (Pa (Ca call145 (B6 20 _ _ h Om)) (Ps (Qd (k2 (Qg (r_ (Es results135 [] ⟨rfl,rfl,rfl⟩)))))))))))))
def EH(N:Nat):∀(x:Nd) (cx:List Value) {R:Hp},SizeOf.sizeOf x<=N->RepN R x cx->yf x<=big->QTri prog 181 [.agg ⟨cx⟩] R [] (.int .i64 (yf x:Int)):=by
 induction N using Nat.strongRecOn with
 |_ N ih=>
 intro x cx R hN hx hd;obtain⟨k1,n1,s1,l,q,cap,rfl,rfl,hs1,hl⟩:=hx.inv;have hlb:l.length<=big:=hl.choose_spec.1;rw[yf]at hd;have hdl:=deepL_le.1 (Nat.le_of_succ_le hd);unfold big at hlb hd hdl;refine Tri.q (To func181 ntmps181 λ_ F _ r_ _ _=>?_);try simp[cB]
 refine XN λK1 hK1=>Qc (Xc Qo rfl rfl rfl (λb1=>Ps (Qd (hK1 _ _ _ (cS λ_ k2=>Qc (Ps (Qd (k2 (cS λ_ k3=>cS λ_ k4=>Qc (Ps (Qd (k4 (Qp (Lp (λ(x:Nat)=>[(1,.pointer (some ⟨b1,0,none⟩)),(3,.int .i64 (qz (l.take x):Int)),(4,.int .i64 (x:Int))]) (λx=>R) (λx=>QA b1 [.int .i64 k1,.int .u64 ((n1:Nat):Int),.string (Qs s1),.slice q l.length cap] 150::F) (λx=>x<=l.length) (λx=>l.length-x) 0 Si ?_))))))))))))));rintro i hI3;try dsimp only
 refine cS λ_ k5=>cS λ_ k6=>Qc (Pm (Pa (Ga Gq HP) (Pa (La YY) (Pa (QV Gy) (Pa QR (Qd (k6 (Qi rfl (λhc9=>?_) (λhc9=>?_)))))))));try simp[dx]at hc9
 refine Qh (k5 (cS λ_ k8=>Qp (Qc ?_)));obtain⟨x1,hx1⟩:∃x,l[i]?=some x:=⟨l[i]'Om,Si⟩;obtain⟨b,off,cs,rfl,hc4,hrep,hcell⟩:=hl.at hx1;refine Pm (Pa (Ga Gq HP) (Pa (La YY) (Pm ?_)));refine Pa (QE Gy HB) (Pa ((Yq QF hc4 rfl (λj u hj=>by simpa using hcell j u hj))) (Pa (Ca call181 (ih (SizeOf.sizeOf x1) (by have:=JE (Gv hx1);simp at hN;omega) x1 cs (Gl _) hrep (by have:=hdl x1 (Gv hx1);unfold big;omega))) (Pa (ee rfl rfl) (Xx 19 rfl (v':=.int .i64 (qz (l.take (i+1)):Int)) (by rw[uL hx1];congr 1;omega) (Ps (Qd (k8 (Qc (Pm ?_)))))))));refine Pa Qz (Ps (Qd (ro rfl (rd (i+1) Om Om))));try simp[dx]at hc9
 refine QG (k3 (cE [3] (cS λ_ k9=>Qc ?_)));rw[Gx Om];refine Pm ?_;refine Pa Qz (Ps (Qd (k9 (Qg (r_ (Es results181 [] ?_))))));refine⟨?_,rfl,rfl⟩;rw[yf];rfl
def upTo(p:Nd->Bool)(l:List Nd)(i:Nat):Prop:=∀(j:Nat) (y:Nd),l[j]?=some y->j<i->p y=true
def upTo.succ{p:Nd->Bool}(h:upTo p l i)(hx:l[i]?=some x)(hp:p x=true):upTo p l (i+1):=λj y hj hlt=>by
 rcases HK j i with h'|h';.exact h j y hj h'
 obtain rfl:j=i:=by omega
 rw[hx]at hj;cases hj;exact hp
def upTo.all{p:Nd->Bool}(h:upTo p l i)(hi:l.length<=i):∀y∈l,p y=true:=λy hy=>by
 obtain⟨j,hj,rfl⟩:=Ij hy;exact h j _ Si Om
def wc(hx:l[i]?=some x)(h:Yz x=false):jv l=false:=by
 rw[<-Bool.not_eq_true,plainL_iff];intro h';have:=h' x (Gv hx);rw[h]at this;cases this
def Cc(N:Nat):∀(x:Nd) (cx:List Value) {R:Hp},SizeOf.sizeOf x<=N->RepN R x cx->QTri prog 182 [.agg ⟨cx⟩] R [] (.bool (Yz x)):=by
 induction N using Nat.strongRecOn with
 |_ N ih=>
 intro x cx R hN hx;obtain⟨k1,n1,s1,l,q,cap,rfl,rfl,hs1,hl⟩:=hx.inv;have hlb:l.length<=big:=hl.choose_spec.1;unfold big at hlb;refine Tri.q (To func182 ntmps182 λ_ F _ r_ _ _=>?_);try simp[cB]
 refine XN λK1 hK1=>Qc (Xc Qo rfl rfl rfl (λb1=>Ps (Qd (hK1 _ _ _ (cS λ_ k2=>cS λ_ k3=>Qc (Pa (Ga Gq GQ) (Pa (La o3) (Qd (k3 (Qp (cS λ_ k4=>Qc (Pa QL (Ps (Qd (k4 (Qi rfl (λhc6=>?_) (λhc6=>?_)))))))))))))))));try simp[dx]at hc6
 refine cS λ_ k6=>Qc (Pa (Ga Gq Ic) (Pa (La o9) (Pa bH (Pm (QM 11 rfl (λhg11=>?_) (λhg11=>?_))))));try simp[dx]at hg11
 refine Pb (Ga Gq HP) (Pb (La YY) (Pb (QV Gy) (Pb QL (Pa Qq (Ps (Qd (k6 (Qg (r_ (Es Jq [] ?_))))))))));refine⟨?_,rfl,rfl⟩;first|(focus(simp_all[Yz,QI];done))|(simp_all[Yz,QI];exact ZX _)
 try simp[dx]at hg11
 refine Pk (Pk (Pk (Pk (Pa Qn (Ps (Qd (k6 (cE [2] (Qg (r_ ?_))))))))));refine Es Jq [] ?_;refine⟨?_,rfl,rfl⟩;first|(focus(simp_all[Yz,QI];done))|(simp_all[Yz,QI];exact ZX _)
 try simp[dx]at hc6
 refine cS λ_ k7=>Qc (Pa QL (Ps (Qd (k7 (Qi rfl (λhc17=>?_) (λhc17=>?_))))));try simp[dx]at hc17
 refine cS λ_ k9=>Qc (Pa (Ga Gq Gw) (Pa (La QO) (Pa QL (Pm (QM 22 rfl (λhg22=>?_) (λhg22=>?_))))));try simp[dx]at hg22
 refine Pb (Ga Gq HP) (Pb (La YY) (Pb (QV Gy) (Pb QL (Pa Qq (Ps (Qd (k9 (Qg (r_ (Es Jq [] ?_))))))))));refine⟨?_,rfl,rfl⟩;first|(focus(simp_all[Yz,QI];done))|(simp_all[Yz,QI];exact ZX _)
 try simp[dx]at hg22
 refine Pk (Pk (Pk (Pk (Pa Qn (Ps (Qd (k9 (cE [2] (Qg (r_ ?_))))))))));refine Es Jq [] ?_;refine⟨?_,rfl,rfl⟩;first|(focus(simp_all[Yz,QI];done))|(simp_all[Yz,QI];exact ZX _)
 try simp[dx]at hc17
 refine cS λ_ k10=>Qc (Pa QL (Ps (Qd (k10 (Qi rfl (λhc28=>?_) (λhc28=>?_))))));try simp[dx]at hc28
 refine cS λ_ k12=>cS λ_ k13=>Qc (Pa (Ga Gq Gw) (Pa (La QO) (Pa Yp (Pm (QM 33 rfl (λhg33=>?_) (λhg33=>?_))))));try simp[dx]at hg33
 refine Pk (Pk (Pk (Pa Qq (Qd (k13 (QD rfl (cS λ_ k14=>Qc (Ps (Qd (k14 (Qg (r_ (Es Jq [] ?_)))))))))))));refine⟨?_,rfl,rfl⟩;first|(focus(simp_all[Yz,QI];done))|(simp_all[Yz,QI];exact ZX _)
 try simp[dx]at hg33
 refine Pb (Ga Gq Ic) (Pb (La o9) (Pb (fA rfl rfl) (Pa Qn (Qd (k13 (Qi rfl (λhc37=>?_) (λhc37=>?_)))))));try simp[dx]at hc37
 refine cS λ_ k16=>Qc (Ps (Qd (k16 (Qg (r_ (Es Jq [] ?_))))));refine⟨?_,rfl,rfl⟩;first|(focus(simp_all[Yz,QI];done))|(simp_all[Yz,QI];exact ZX _)
 try simp[dx]at hc37
 refine Qh (k12 (cS λ_ k17=>cS λ_ k18=>Qc (Ps (Qd (k18 (Qp (Lp (λ(x:Nat)=>[(1,.pointer (some ⟨b1,0,none⟩)),(3,.int .i64 (x:Int))]) (λx=>R) (λx=>QA b1 [.int .i64 k1,.int .u64 ((n1:Nat):Int),.string (Qs s1),.slice q l.length cap] 150::F) (λx=>x<=l.length/\upTo Yz l x) (λx=>l.length-x) 0 (⟨Si,λ_ _ _ h=>Om⟩) ?_)))))));rintro i ⟨hi,hall⟩;try dsimp only
 refine cS λ_ k19=>cS λ_ k20=>Qc (Pm (Pa (Ga Gq HP) (Pa (La YY) (Pa (QV Gy) (Pa QR (Qd (k20 (cE [1,3,42] (Qi rfl (λhc42=>?_) (λhc42=>?_))))))))));try simp[dx]at hc42
 refine Qh (k19 (cS λ_ k22=>Qp (cS λ_ k23=>Qc ?_)));obtain⟨x1,hx1⟩:∃x,l[i]?=some x:=⟨l[i]'Om,Si⟩;obtain⟨b,off,cs,rfl,hc4,hrep,hcell⟩:=hl.at hx1;refine Pa (Ga Gq HP) (Pa (La YY) (Pm ?_));refine Pa (QE Gy HB) (Pa ((Yq QF hc4 rfl (λj u hj=>by simpa using hcell j u hj))) (Pa (Ca call182 (ih (SizeOf.sizeOf x1) (by have:=JE (Gv hx1);simp at hN;omega) x1 cs (Gl _) hrep)) (Pa Xa (Qd (k23 (Qi rfl (λhc51=>?_) (λhc51=>?_)))))))
 (try simp[dx]at hc51);have hpl:jv l=false:=wc hx1 (by simpa using hc51)
 refine cS λ_ k25=>Qc (Ps (Qd (k25 (Qg (r_ (Es Jq [] ?_))))));refine⟨?_,rfl,rfl⟩;first|(focus(simp_all[Yz,QI];done))|(simp_all[Yz,QI];exact ZX _)
 try simp[dx]at hc51
 refine Qh (k22 (Qc (Pm ?_)));refine Pa Qz (Ps (Qd (ro rfl (rd (i+1) (⟨Om,hall.succ hx1 (by simpa using hc51)⟩) Om))));try simp[dx]at hc42
 refine QG (k17 (cE [] (cS λ_ k26=>Qc ?_)));have hpl:jv l=true:=plainL_iff.2 (hall.all Om);refine Ps (Qd (k26 (Qg (r_ (Es Jq [] ?_)))));refine⟨?_,rfl,rfl⟩;first|(focus(simp_all[Yz,QI];done))|(simp_all[Yz,QI];exact ZX _)
 try simp[dx]at hc28
 refine Qh (k2 (cS λ_ k27=>Qc (Ps (Qd (k27 (Qg (r_ (Es Jq [] ?_))))))));refine⟨?_,rfl,rfl⟩;first|(focus(simp_all[Yz,QI];done))|(simp_all[Yz,QI];exact ZX _)
def xC(x:Nd)(cs:List Value)(h:RepN R x cs)(hd:yf x<=big):QTri prog 178 [.agg ⟨cs⟩] R [] (.bool (Xu 20 x)):=by
 have hr:=il 20 x;have hd':yf x<=1000000000000:=hd;obtain⟨k,n,s,l,q,cap,rfl,rfl,hs,hl⟩:=h.inv;refine Tri.q (To func178 ntmps178 λ_ F _ r_ _ _=>?_);try simp[cB]
 refine cS λ_ k1=>Qc (Xc Qo rfl rfl rfl (λb1=>Ps (Qd (k1 (cS λ_ k2=>Qc (Pa (Lb QF) (Pa (Ca call181 (EH _ _ _ (Gl _) h hd)) (Pa aL (Pm (QM 6 rfl (λhg6=>?_) (λhg6=>?_)))))))))));try simp[dx]at hg6
 refine Pb (Lb QF) (Pb (Ca call182 (Cc _ _ _ (Gl _) h)) (Pa Qq (Ps (Qd (k2 (Qg (r_ (Es results178 [] ?_))))))));refine⟨?_,rfl,rfl⟩;rw[hr];simp_all[QI];intros;omega;try simp[dx]at hg6
 refine Pk (Pk (Pa Qn (Ps (Qd (k2 (Qg (r_ (Es results178 [] ?_))))))));refine⟨?_,rfl,rfl⟩;rw[hr];simp_all[QI];intros;omega
@[reducible] def wB (b : Nat) (q : Option Addr) (v : Value) (bad : Bool) : Qj := QA b [.pointer q, v, .bool bad] 209
@[reducible] def wS (v : Value) (bs : List UInt8) : Qj := QN 5 1 v bs.length (XU bs)
def gc(b:Nat)(q:Option Addr):Prop:=q=none\/q=some ⟨b,0,none⟩
def iv(b:Nat)(q:Option Addr)(v:Value)(bad:Bool)(hq:gc b q):Tri prog 152 [.pointer (some ⟨b,0,none⟩)] R [wB b q v bad]
  (λr R' L'=>R=R'/\L'=[wB b (some ⟨b,0,none⟩) v bad]):=by
 refine To func152 ntmps152 λ_ F _ _ n_ _=>?_;try simp[cB]
 refine cS λ_ k1=>Qc (Pm (Pa Qe (Pa (Ga IP sizeOf205) ?_)));refine Pa (La x7) (Pa (Yv KO) (Qd (k1 (Qi rfl (λhc6=>?_) (λhc6=>?_)))));try simp[dx]at hc6
 refine Qc (Pm (Pm ?_));exact Pa ((ri KO underlying229 Kr rfl Qm Si)) (Pa ((tA func154 Kr Kr Kr Kr rfl)) (Pa ((ng underlying229 KO Kr rfl Qm rfl Kr)) (Pa Qe (Pa (Ga IP sizeOf205) (Sa x7 (Qd (n_ (Et results152 [wB b (some ⟨b,0,none⟩) v bad] QB ⟨rfl,rfl⟩))))))));obtain rfl:q=some ⟨b,0,none⟩:=by rcases hq with rfl|rfl;simp at hc6;rfl
 refine cS λ_ k3=>Qc (Pm (Pa Qe (Pa (Ga IP sizeOf205) ?_)));refine Pa (La x7) (Pm (Pa ((rl KO Kr rfl rfl)) (Qd (k3 (cE [19] ?_)))));exact Qt rfl (Qh (n_ (Et results152 [wB b (some ⟨b,0,none⟩) v bad] QB ⟨rfl,rfl⟩)))
def yE(b:Nat)(q:Option Addr)(v:Value)(bad:Bool)(bs:List UInt8)(u:UInt8)(hq:gc b q)(hh:ZL v)(hl:bs.length<=1000000000):Tri prog 146 [.pointer (some ⟨b,0,none⟩),.int .u8 (u.toNat:Int)] R [wB b q v bad,wS v bs]
  (λr R' L'=>R=R'/\∃v',ZL v'/\L'=[wB b (some ⟨b,0,none⟩) v' bad,wS v' (bs++[u])]):=by
 refine To func146 ntmps146 λ_ F _ r_ _ _=>?_;try simp[cB]
 refine cS λ_ k1=>Qc (Ps (Qd (k1 (cS λ_ k2=>Qc (Pm (Ra call152 (iv b q v bad hq) ?_))))));rintro r R' L' hR ⟨rfl,rfl⟩;try simp[cB]
 refine Qd (k2 (cS λ_ k3=>Qc (Pm (Pm (Pa Qe (Pa (Ga IP Kc) ?_))))));refine Pa (La zX) (Pm (Qv (sz:=1) Qo rfl Ig Lw Kk rfl rfl rfl Dc Dc (λb13=>QZ (sz:=1) (by_:=1) ⟨Ig,_,_,rfl,rfl,rfl,rfl,rfl⟩ Qo rfl rfl rfl Qm (XL (xs:=[.int .u8 (u.toNat:Int)]) Ig Qm (by(first|(simp[Value.oneCell'];done)|(intro u hu;simp[Gn,Gs,G7]at hu;rcases hu with rfl|rfl|rfl|rfl<;>first|rfl|assumption)))) rfl Qu (by simp[maxLen];omega) (λv14 ho14 hh14=>?_))));rw[show XU bs++[Value.int .u8 (u.toNat:Int)]=XU (bs++[u])by rw[<-fm];rfl,show bs.length+1=(bs++[u]).length by simp];refine Pa Qe ?_;refine Pa (Ga IP Kc) ?_;refine Sa zX ?_;exact Qd (k3 (cE [] (cS λ_ k4=>Qc (Ps (Qd (k4 (Qg (r_ (Es results146 [wB b (some ⟨b,0,none⟩) v14 bad,wS v14 (bs++[u])] ⟨rfl,v14,hh14 hh,rfl⟩)))))))))
def nh(b:Nat)(q:Option Addr)(v:Value)(bad:Bool)(bs s:List UInt8)(hq:gc b q)(hh:ZL v)(hl:bs.length<=1000000000)(hs:s.length<=1000000000):Tri prog 148 [.pointer (some ⟨b,0,none⟩),.string (Qs s)] R [wB b q v bad,wS v bs]
  (λr R' L'=>R=R'/\∃v',ZL v'/\L'=[wB b (some ⟨b,0,none⟩) v' bad,wS v' (bs++s)]):=by
 refine To func148 ntmps148 λ_ F _ r_ _ _=>?_;try simp[cB]
 refine cS λ_ k1=>Qc (Ps (Ps (Qd (k1 (cS λ_ k2=>Qc (Pm (Ra call152 (iv b q v bad hq) ?_)))))));rintro r R' L' hR ⟨rfl,rfl⟩;try simp[cB]
 refine Qd (k2 (cS λ_ k3=>Qc (Pm (Pm (Pa Qe (Pa (Ga IP Kc) ?_))))));refine Pa (La zX) (Pm ?_);refine QZ (sz:=1) (by_:=1) ⟨Ig,_,_,rfl,rfl,rfl,rfl,rfl⟩ Qo rfl rfl rfl Qm (r9 GZ) rfl Qu (by simp[maxLen];omega) (λv14 ho14 hh14=>?_);rw[fm,<-Gm];exact Pa Qe (Pa (Ga IP Kc) (Sa zX (Qd (k3 (cS λ_ k4=>Qc (Pm (Pa (YP GZ) (Ps (Ps (Qd (k4 (Qg (r_ (Es results148 [wB b (some ⟨b,0,none⟩) v14 bad,wS v14 (bs++s)] ⟨rfl,v14,hh14 hh,rfl⟩))))))))))))))
def p9(b:Nat)(q:Option Addr)(v:Value)(bad:Bool)(bs:List UInt8):QTri prog 137 [.pointer (some ⟨b,0,none⟩)] R [wB b q v bad,wS v bs] (.int .i64 (bs.length:Int)):=by
 refine Tri.q (To func137 ntmps137 λ_ F _ r_ _ _=>?_);try simp[cB]
 refine cS λ_ k1=>Qc (Ps (Qd (k1 (cS λ_ k2=>Qc (Pm (Pa Qe (Pa (Ga IP Kc) ?_)))))));exact Pa (La zX) (Pa (Zf Ig) (Ps (Qd (k2 (Qg (r_ (Es results137 [wB b q v bad,wS v bs] ⟨rfl,rfl,rfl⟩)))))))
def w9(b:Nat)(q:Option Addr)(v:Value)(bad:Bool)(bs:List UInt8)(hh:ZL v)(h0:0<bs.length)(hl:bs.length<=1000000000):Tri prog 138 [.pointer (some ⟨b,0,none⟩)] R [wB b q v bad,wS v bs]
  (λr R' L'=>R=R'/\r=.string (Qs bs)/\L'=[]):=by
 refine To func138 ntmps138 λ_ F _ r_ _ _=>?_;try simp[cB]
 refine qh (A:=wS v bs) Qm ZF (λhsh=>?_);obtain⟨qq,k,rfl,hk,_,hqq⟩:=hsh;obtain⟨bb,off,rfl⟩:=hqq h0;obtain rfl:=hh _ _ _ _ rfl;refine cS λ_ k1=>Qc (Ps (Qd (k1 (cS λ_ k2=>d9 [0,1,2,3,4,5,6,7,8,9] [] [10,11] Kr Kr Kr rfl (Wc rfl Qf (Wc rfl (Qe rfl) ?_))))));refine Wc rfl (Ga IP Kc) ?_;refine Wc rfl (La zX) ?_;refine Wc rfl (E9 rfl Om) (Wc rfl (Qf rfl) (Wc rfl (Qe rfl) ?_));refine Wc rfl (Ga IP Kc) ?_;refine Wc rfl (La zX) (Wc rfl (QV Ig rfl) (Xq (Xt ?_)));try simp[cC]
 exact kj Qo rfl underlying223 Kr rfl rfl Qm h0 Om (Ps (Qd (k2 (Qg (r_ (Es results138 [] ⟨rfl,rfl,rfl⟩))))))
def Fl(m:Nat):zs .u8 (IntKind.u8.wrap (m:Int)) 128=((UInt8.ofNat (m%128+128)).toNat:Int):=by
 have hw:IntKind.u8.wrap (m:Int)=((m%256:Nat):Int):=by
  simp[IntKind.wrap,IntKind.signed,IntKind.bits]
 rw[hw,YS _ Om];have hlt:m%256<256:=M1 _ Dc;have hmm:m%128=m%256%128:=Om;rw[hmm];generalize m%256=A at hlt;have key:∀A:Fin 256,zs .u8 ((A.val:Nat):Int) 128=((A.val%128+128:Nat):Int):=by decide+kernel
 exact key ⟨A,hlt⟩
def zm{k:IntKind}(m j:Nat)(z:Int)(hz:z=j)(hj:j<=k.bits):((m:Nat):Int).fdiv (2^min z.toNat k.bits)=((m/2^j:Nat):Int):=by
 subst hz;rw[Hc,Hj hj,Int.fdiv_eq_ediv_of_nonneg _ (by exact Int.pow_nonneg Dc)];rw[Int.natCast_ediv,Int.natCast_pow];rfl
def ek(m:Nat):IntKind.u8.wrap (m:Int)=((UInt8.ofNat (m%256)).toNat:Int):=by
 rw[YS _ Om];simp[IntKind.wrap,IntKind.signed,IntKind.bits]
def kZ(b:Nat)(q:Option Addr)(v:Value)(bad:Bool)(bs:List UInt8)(n:Nat)(hq:gc b q)(hh:ZL v)(hl:bs.length<=100000000)(hn:n<=big):
  Tri prog 147 [.pointer (some ⟨b,0,none⟩),.int .i64 (n:Int)] R [wB b q v bad,wS v bs]
  (λr R' L'=>R=R'/\∃v',ZL v'/\L'=[wB b (some ⟨b,0,none⟩) v' bad,wS v' (bs++XO n)]):=by
 unfold big at hn;have hsl:=ZU 5 n (by simp;omega);refine To func147 ntmps147 λ_ F _ _ n_ _=>?_;try simp only[cB]
 refine cS λ_ k1=>Qp (Lp (λ(x:Nat×List UInt8×Option Addr×Value)=>[(0,.pointer (some ⟨b,0,none⟩)),(1,.int .i64 (x.1:Int))]) (λx=>R) (λx=>wB b x.2.2.1 x.2.2.2 bad::wS x.2.2.2 x.2.1::F) (λx=>gc b x.2.2.1/\ZL x.2.2.2/\x.2.1++XO x.1=bs++XO n/\x.1<=n) (λx=>x.1) (n,bs,q,v) (⟨hq,hh,rfl,Gl _⟩) ?_);rintro⟨m,acc,q1,v1⟩ ⟨hq1,hh1,he,hm⟩;try dsimp only
 dsimp only at hq1 hh1 he hm;have hel:=GM List.length he;simp only[Gm]at hel;refine cS λ_ k2=>cS λ_ k3=>Qc (Pm (Pa ZP (Qd (k3 (Qi rfl (λhc5=>?_) (λhc5=>?_))))));try simp only[dx]at hc5
 refine Qh (k2 (cS λ_ k5=>Qp (Qc (Pm (Pa Qe (Pa (Ga H6 Je) (Pm (Pa (jl HA HN) (Pa kY (Xx 13 rfl (GM _ (Fl m)) (Ra Lx (yE b q1 v1 bad acc _ hq1 hh1 Om) ?_)))))))))));rintro r R' L' hR ⟨rfl,v2,hh2,rfl⟩;try simp only[cB]
 refine Qd (k5 (Qc (Pm (Pa aK ?_))));refine Xx 7 rfl (GM _ (zm m 7 7 rfl Dc)) (Ps (Qd (ro rfl (rd ((m/128,acc++[UInt8.ofNat (m%128+128)],some ⟨b,0,none⟩,v2)) (⟨.inr rfl,hh2,by dsimp only;rw[<-he,jd (n:=m) Om];simp,by dsimp only;omega⟩) Do))));try simp only[dx]at hc5
 refine QG (k1 (Qc (Pm (Pa Qe (Pa (Ga H6 Je) (Pm ?_))))));refine Pa (XE HA HN rfl (by(simp only[IntKind.min,IntKind.max,IntKind.signed,IntKind.bits,GP,H3,H7];omega))) (Xx 19 rfl (v':=.int .u8 ((UInt8.ofNat m).toNat:Int)) (by rw[YS _ Om]) (Ra Lx (yE b q1 v1 bad acc _ hq1 hh1 Om) ?_));rintro r R' L' hR ⟨rfl,v2,hh2,rfl⟩;rw[show acc++[UInt8.ofNat m]=bs++XO n by rw[<-he,YW Om]];try simp only[cB]
 exact Qd (n_ (Et results147 [wB b (some ⟨b,0,none⟩) v2 bad,wS v2 (bs++XO n)] QB ⟨rfl,v2,hh2,rfl⟩))
def na:∀(k n:Nat),n<2^k->(k=0\/2^(k-1)<=n)->Zn n=k
 | 0, n, h, _ => by have:n=0:=by simpa using h
                    subst this;exact zL
 |k+1,n,h,h2=>by
   have h3:2^k<=n:=by simpa using h2
   have hp:1<=2^k:=M0
   rw[aU Om,na k (n/2) (by rw[In]at h;omega) (by
     cases k with
     |zero=>exact .inl rfl
     |succ k=>right;rw[In]at h3;simp;omega)]
def F2{m:List UInt8}(h:∀x:Fin 256,x.val<2^(m.getD x.val 0).toNat/\((m.getD x.val 0).toNat=0\/2^((m.getD x.val 0).toNat-1)<=x.val)){n:Nat}(hn:n<256):XY m (n:Int)=(Zn n:Int):=by
 have:=h ⟨n,hn⟩;rw[na _ _ this.1 this.2];simp[XY]
def sC(n:Nat)(hn:n<18446744073709551616):QTri prog 134 [.int .u64 (n:Int)] R [] (.int .i64 (Zn n:Int)):=by
 refine Tri.q (To func134 ntmps134 λσ F _ r_ _ _=>?_);try simp[cB]
 refine cS λ_ k1=>Qc (Ps (Qd (k1 (XN λK2 hK2=>?_))));have hJ4:∀(x:Nat×Nat),x.1<4294967296/\x.2+Zn x.1=Zn n/\x.2<=32->EJ ⟨prog,25,σ⟩ K2 [(0,.int .u64 (x.1:Int)),(2,.int .i64 (x.2:Int))] R (F):=by
  rintro⟨m,r⟩ ⟨hm,hb,hr⟩;try dsimp only
  dsimp only at hm hb hr;refine hK2 _ _ _ (XN λK3 hK3=>?_);have hJ7:∀(x:Nat×Nat),x.1<65536/\x.2+Zn x.1=Zn n/\x.2<=48->EJ ⟨prog,25,σ⟩ K3 [(0,.int .u64 (x.1:Int)),(2,.int .i64 (x.2:Int))] R (F):=by
   rintro⟨m2,r2⟩ ⟨hm2,hb2,hr2⟩;try dsimp only
   dsimp only at hm2 hb2 hr2;refine hK3 _ _ _ (XN λK4 hK4=>?_);have hJ10:∀(x:Nat×Nat),x.1<256/\x.2+Zn x.1=Zn n/\x.2<=56->EJ ⟨prog,25,σ⟩ K4 [(0,.int .u64 (x.1:Int)),(2,.int .i64 (x.2:Int))] R (F):=by
    rintro⟨m3,r3⟩ ⟨hm3,hb3,hr3⟩;try dsimp only
    dsimp only at hm3 hb3 hr3;have hb8:=df 8 m3 (by simpa using hm3);refine hK4 _ _ _ (cS λ_ k5=>Qc (Pm (Pm (Pa (XE Ib HN rfl (by(simp[IntKind.min,IntKind.max,IntKind.signed,IntKind.bits,GP,H3,H7];omega))) (Pa ((Zg GZ rfl rfl ⟨Om,J4 (by omega:(m3:Int)<256) (by decide+kernel)⟩)) (Xx 22 rfl (GM _ (F2 (by decide+kernel) hm3)) (Pa (XE HN HA rfl (by(simp[IntKind.min,IntKind.max,IntKind.signed,IntKind.bits,GP,H3,H7];omega))) ?_)))))));refine Pa Qz (Ps (Qd (k5 (Qg (r_ (Es results134 [] ?_))))));refine⟨?_,rfl,rfl⟩;rw[<-hb3];rfl
   refine cS λ_ k6=>Qc (Pm (Pa ZP (Qd (k6 (Qi rfl (λhc14=>?_) (λhc14=>?_))))));try simp[dx]at hc14
   refine cS λ_ k8=>Qc (Pm (Pa aK ?_));refine Xx 16 rfl (GM _ (zm m2 8 8 rfl Dc)) (Ps (Qd (k8 (Qc (Pm ?_)))));refine Pa Qz (Ps (Qd (Jn hJ10 ((m2/2^8,r2+8)) (⟨by dsimp only;omega,by have:=zi 8 m2 Om;dsimp only;omega,by dsimp only;omega⟩))));try simp[dx]at hc14
   refine Qh (Jn hJ10 ((m2,r2)) (⟨by dsimp only;omega,hb2,by dsimp only;omega⟩))
  refine cS λ_ k9=>Qc (Pm (Pa ZP (Qd (k9 (Qi rfl (λhc8=>?_) (λhc8=>?_))))));try simp[dx]at hc8
  refine cS λ_ k11=>Qc (Pm (Pa aK ?_));refine Xx 10 rfl (GM _ (zm m 16 16 rfl Dc)) (Ps (Qd (k11 (cE [0,2] ?_))));refine Qc (Pm ?_);refine Pa Qz (Ps (Qd (Jn hJ7 ((m/2^16,r+16)) (⟨by dsimp only;omega,by have:=zi 16 m Om;dsimp only;omega,by dsimp only;omega⟩))));try simp[dx]at hc8
  refine Qh (Jn hJ7 ((m,r)) (⟨by dsimp only;omega,hb,by dsimp only;omega⟩))
 refine cS λ_ k12=>Qc (Pm (Pa ZP (Qd (k12 (Qi rfl (λhc4=>?_) (λhc4=>?_))))));try simp[dx]at hc4
 refine cS λ_ k14=>Qc (Pm (Pa aK ?_));refine Xx 6 rfl (GM _ (zm n 32 32 rfl Dc)) (Ps (Qd (k14 (Qc (Ps (Qd (Jn hJ4 ((n/2^32,32)) (⟨by dsimp only;omega,by have:=zi 32 n Om;dsimp only;omega,Si⟩))))))));try simp[dx]at hc4
 refine Qh (Jn hJ4 ((n,0)) (⟨by dsimp only;omega,Si,Si⟩))
def FS(b:Nat)(bs out:List UInt8)(bad:Bool)(R R':Hp)(L':List Qj):Prop:=
 R=R'/\∃q' v' bad' bs',gc b q'/\ZL v'/\L'=[wB b q' v' bad',wS v' bs']/\(bad=true->bad'=true)/\(bad'=false->bs'=bs++out)/\(bad=false->bad'=true->16777216<(bs++out).length)/\(bs'.length<=bs.length\/bs'.length<=16777316)
def FZ(m:Nat)(h:m<=64):IntKind.i64.wrap (((m:Int)+7).tdiv 8)=(((m+7)/8:Nat):Int):=by
 rw[J1 Om,qX ⟨Om,Om⟩];omega
def vx(n j:Nat)(hj:j<(XF n).length):(XF n).take j++[UInt8.ofNat (n/2^(8*((XF n).length-1-j))%256)]=(XF n).take (j+1):=by
 have:=y4 n j hj;rw[HV,this,show(256:Nat)=2^8 by rfl,<-MC];rfl
def bI(hx:l[i]?=some x):YZ (l.take (i+1))=YZ (l.take i)++wr x:=by
 have key:∀(m:List Nd),YZ (m++[x])=YZ m++wr x:=by
  intro m;induction m with
  |nil=>simp[YZ]
  |cons y m ih=>rw[HW,YZ,ih,YZ,GA]
 rw[HV,hx];exact key _
def Bu(N:Nat):∀(x:Nd) (cx:List Value) {R:Hp} (b:Nat) (q:Option Addr) (v:Value) (bad:Bool) (bs:List UInt8),SizeOf.sizeOf x<=N->RepN R x cx->OkN x->gc b q->ZL v->bs.length<=16777316->
  Tri prog 136 [.pointer (some ⟨b,0,none⟩),.agg ⟨cx⟩] R [wB b q v bad,wS v bs] (λr R' L'=>FS b bs (wr x) bad R R' L'):=by
 induction N using Nat.strongRecOn with
 |_ N ih=>
 intro x cx R b q v bad bs hN hx hok hq hh hbl;obtain⟨k,n,s,l,sq,cap,rfl,rfl,hs,hl⟩:=hx.inv;have hlb:l.length<=big:=hl.choose_spec.1;obtain⟨hn,hkids⟩:n<18446744073709551616/\∀y∈l,OkN y:=by cases hok with|mk h1 h2=>exact⟨h1,h2⟩
 have hnl:(XF n).length<=8:=zJ 8 n Om;have hnb:=wm n;have hb64:=df 64 n Om;have hz1:=ZU 5 (XF n).length Om;have hs0:=hs;have hl0:=hlb;unfold big at hs hlb;have hz2:=ZU 5 s.length (by simp;omega);have hz3:=ZU 5 l.length (by simp;omega);refine To func136 ntmps136 λ_ F _ r_ n_ _=>?_;try simp only[cB]
 refine XN λK1 hK1=>Qc (Xc Qo rfl rfl rfl (λbx=>Qd (hK1 _ _ _ (cS λ_ k2=>cS λ_ k3=>Qc (Pm (Pm (Pa Qe (Pa (Ga H6 Il) ?_))))))));refine Pa (La o4) (Pm (QM 13 rfl (λhg13=>?_) (λhg13=>?_)));subst hg13;refine Pk (Pk (Pk (Pk (Pk (Pa Qq (Pa Qe (Pa (Ga H6 Il) (Sa o4 (Qd (k3 (cS λ_ k4=>Qc (Pm (Pa Qe (Pa (Ga H6 Il) ?_))))))))))))));refine Pa (La o4) (Qd (k4 (cE [0,3,25] ?_)));exact QD rfl (Qg (r_ (Es Ko [wB b q v true,wS v bs] ⟨rfl,q,v,true,bs,hq,hh,rfl,λ_=>rfl,λh=>(by cases h),λh=>(by cases h),.inl (Gl _)⟩)));subst hg13;refine Pb Qf (Pb Qe (Pb (Ga H6 Je) (Pb (Ca call137 (p9 b q v false bs)) (Pb XG (Pa Qn (Pa Qe (Pa (Ga H6 Il) (Sa o4 (Qd (k3 (cS λ_ k5=>Qc (Pm (Pa Qe (Pa (Ga H6 Il) ?_))))))))))))));refine Pa (La o4) (Qd (k5 (Qi rfl (λhc25=>?_) (λhc25=>?_))));rw[hc25];(try simp only[dx]at hc25);exact Qg (r_ (Es Ko [wB b q v true,wS v bs] ⟨rfl,q,v,true,bs,hq,hh,rfl,λ_=>rfl,λh=>(by cases h),λ_ _=>by simp at hc25|-;omega,.inl (Gl _)⟩));rw[hc25];(try simp only[dx]at hc25);refine Qh (k2 (cS λ_ k7=>Qc (Pa (Ga Gq GQ) (Pa (La o3) (Qd (k7 (Qp (cS λ_ k8=>Qc (Pa QL (Ps (Qd (k8 (Qi rfl (λhc48=>?_) (λhc48=>?_))))))))))))))
 (try simp only[dx]at hc48);subst hc48
 refine cS λ_ k10=>Qc (Pa (Ga Gq Gw) (Pa (La QO) (Pa (Ca call134 (sC n hn)) (Pa Qz (Pa (np rfl rfl Qu) ?_)))));refine Xx 54 rfl (v':=.int .i64 ((XF n).length:Int)) (by rw[hnb];exact GM _ (FZ _ hb64)) (Ps (Qd (k10 (cE [0,3,4] ?_))));refine cS λ_ k11=>Qc (Pm (Pa Qe (Pa (Ga H6 Je) (Ra Lx (yE b q v false bs 110 hq hh Om) ?_))));rintro r R' L' hR ⟨rfl,v1,hh1,rfl⟩;try simp only[cB]
 refine Qd (k11 (cS λ_ k12=>Qc (Pm (Pm (Ra call147 (kZ b (some ⟨b,0,none⟩) v1 false (bs++[110]) (XF n).length (.inr rfl) hh1 (by simp;omega) (by unfold big;omega)) ?_)))));rintro r R' L' hR ⟨rfl,v2,hh2,rfl⟩;obtain⟨base,hbase⟩:∃base,base=bs++[110]++XO (XF n).length:=⟨_,rfl⟩;have hbl2:base.length<=16777300:=by rw[hbase];simp;omega
 rw[<-hbase];try simp only[cB]
 refine Qd (k12 (cS λ_ k13=>Qc (Pm ?_)));refine Pa Zs (Pa (dA rfl rfl Qu) (Ps (Qd (k13 (Qp ?_)))));rw[show base=base++(XF n).take 0 by simp];refine gF (E':=(λ(x:Nat×Value)=>[(0,.pointer (some ⟨b,0,none⟩)),(3,.pointer (some ⟨bx,0,none⟩)),(5,.int .i64 (8*(((XF n).length:Int)-1-x.1)))]) (0,v2)) (eC rfl (eC rfl (Env.le_cons (KF rfl (GM some (by first|rfl|(exact GM (Value.int .i64) (by first|omega|(dsimp only;omega)))))) eN))) (gE (M:=(λ(x:Nat×Value)=>wB b (some ⟨b,0,none⟩) x.2 false::wS x.2 (base++(XF n).take x.1)::QA bx [.int .i64 0,.int .u64 (n:Int),.string (Qs s),.slice sq l.length cap] 150::F) (0,v2)) Qw (g7 (λ(x:Nat×Value)=>[(0,.pointer (some ⟨b,0,none⟩)),(3,.pointer (some ⟨bx,0,none⟩)),(5,.int .i64 (8*(((XF n).length:Int)-1-x.1)))]) (λ(x:Nat×Value)=>R) (λ(x:Nat×Value)=>wB b (some ⟨b,0,none⟩) x.2 false::wS x.2 (base++(XF n).take x.1)::QA bx [.int .i64 0,.int .u64 (n:Int),.string (Qs s),.slice sq l.length cap] 150::F) (λ(x:Nat×Value)=>x.1<=(XF n).length/\ZL x.2) (λ(x:Nat×Value)=>(XF n).length-x.1) (0,v2) (⟨by simp,hh2⟩) ?_));rintro⟨j,vj⟩ ⟨hj,hhj⟩;try dsimp only
 dsimp only at hj hhj;have htl:((XF n).take j).length=j:=by rw[GX];omega
 refine cS λ_ k14=>cS λ_ k15=>Qc (Pm (Pa ZP (Qd (k15 (Qi rfl (λhc66=>?_) (λhc66=>?_))))));try simp only[dx]at hc66
 refine Qh (k14 (cS λ_ k17=>Qp (d9 [0,1,2,3,4,5,6,7] [] [8] Kr Kr Kr rfl (Wc rfl Qf (Wc rfl (Qe rfl) ?_)))));refine Wc rfl (Ga H6 Je) ?_;refine Wc rfl (Ga Gq Gw) ?_;refine Wc rfl (La QO) (Wc rfl (Qf rfl) ?_);refine Wc rfl ((aK rfl rfl Om).to (GM _ (zm n (8*((XF n).length-1-j)) _ Om (by simp only[IntKind.bits];omega)))) (Wc rfl ((jl Ib HN rfl).to (GM _ (ek _))) (Xq (Xt ?_)));try simp only[cC]
 refine Ra Lx (yE b _ vj false (base++(XF n).take j) _ (.inr rfl) hhj (by simp;omega)) ?_;rintro r R' L' hR ⟨rfl,v3,hh3,rfl⟩;rw[GA,vx n j Om];try simp only[cB]
 refine Qd (k17 (cE [0,3,5] ?_));refine Qc (Pm ?_);refine Pa Zs (Ps (Qd ?_));refine ro rfl ?_;refine fe ((j+1,v3)) (⟨by dsimp only;omega,hh3⟩) Do (eC rfl (eC rfl (Env.le_cons (KF rfl (GM some (by first|rfl|(exact GM (Value.int .i64) (by first|omega|(dsimp only;omega)))))) eN))) rfl Qw;try simp only[dx]at hc66
 refine QG (n_ (Et Ko [wB b (some ⟨b,0,none⟩) vj false,wS vj (base++(XF n).take j)] QB ⟨rfl,some ⟨b,0,none⟩,vj,false,base++(XF n).take j,.inr rfl,hhj,rfl,λh=>(by cases h),λ_=>?_,λ_ h=>(by cases h),.inr (by simp;omega)⟩));rw[hbase,Gx Om,wr];simp;try simp only[dx]at hc48
 refine cS λ_ k18=>Qc (Pa QL (Ps (Qd (k18 (Qi rfl (λhc78=>?_) (λhc78=>?_))))))
 (try simp only[dx]at hc78);subst hc78
 refine cS λ_ k20=>Qc (Pm (Pa Qe (Pa (Ga H6 Je) (Ra Lx (yE b q v false bs 115 hq hh Om) ?_))));rintro r R' L' hR ⟨rfl,v1,hh1,rfl⟩;try simp only[cB]
 refine Qd (k20 (cS λ_ k21=>Qc (Pm (Pa (Ga Gq Ic) (Pa (La o9) (Pa (YP GZ) (Ra call147 (kZ b (some ⟨b,0,none⟩) v1 false (bs++[115]) s.length (.inr rfl) hh1 (by simp;omega) hs0) ?_)))))));rintro r R' L' hR ⟨rfl,v2,hh2,rfl⟩;obtain⟨base,hbase⟩:∃base,base=bs++[115]++XO s.length:=⟨_,rfl⟩;have hbl2:base.length<=16777300:=by rw[hbase];simp;omega
 have hwr:bs++wr (.mk 1 n s l)=base++s:=by rw[hbase,wr];simp
 rw[<-hbase];try simp only[cB]
 refine Qd (k21 (cS λ_ k22=>cS λ_ k23=>dW (Qa Qf (Qa (Qe rfl) ?_))));refine Qa (Ga H6 Je) ?_;refine Qa (Ca call137 (p9 b _ v2 false base)) ?_;refine Qa (Ga Gq Ic) ?_;refine Qa (La o9) (Qa (YP GZ rfl) ?_);refine Qa Qz ?_;refine Qa XG (Xj (k23 ?_));refine cE [0,3,97] ?_;refine Qi rfl (λhc97=>?_) (λhc97=>?_);try simp only[dx]at hc97
 refine cS λ_ k25=>Qc (Pm (Pa Qe (Pa (Ga H6 Il) ?_)));refine Sa o4 ?_;refine Qd (k25 (cE [] (Qg (r_ ?_))));refine Es Ko [wB b (some ⟨b,0,none⟩) v2 true,wS v2 base] ?_;refine⟨rfl,some ⟨b,0,none⟩,v2,true,base,.inr rfl,hh2,rfl,λh=>(by cases h),λh=>(by cases h),λ_ _=>by rw[hwr,Gm];(try simp at hc97);omega,.inr Om⟩;try simp only[dx]at hc97
 refine Qh (k22 (d9 [0,1,2,3,4] [] [5] Kr Kr Kr rfl (Wc rfl Qf (Wc rfl (Qe rfl) ?_))));refine Wc rfl (Ga H6 Je) ?_;refine Wc rfl (Ga Gq Ic) ?_;refine Wc rfl (La o9) ?_;refine Xq (Xt ?_);try simp only[cC]
 refine Ra call148 (nh b _ v2 false base s (.inr rfl) hh2 Om (by(try simp at hc97);omega)) ?_;rintro r R' L' hR ⟨rfl,v3,hh3,rfl⟩;try simp only[cB]
 exact Qd (n_ (Et Ko [wB b (some ⟨b,0,none⟩) v3 false,wS v3 (base++s)] QB ⟨rfl,some ⟨b,0,none⟩,v3,false,base++s,.inr rfl,hh3,rfl,λh=>(by cases h),λ_=>hwr.symm,λ_ h=>(by cases h),.inr (by(try simp at hc97|-);omega)⟩));try simp only[dx]at hc78
 refine cS λ_ k26=>Qc (Pm (Pa Qe (Pa (Ga H6 Je) (Ra Lx (yE b q v false bs 108 hq hh Om) ?_))));rintro r R' L' hR ⟨rfl,v1,hh1,rfl⟩;try simp only[cB]
 refine Qd (k26 (cS λ_ k27=>Qc (Pm (Pa (Ga Gq HP) (Pa (La YY) (Pa (QV Gy) (Ra call147 (kZ b (some ⟨b,0,none⟩) v1 false (bs++[108]) l.length (.inr rfl) hh1 (by simp;omega) hl0) ?_)))))));rintro r R' L' hR ⟨rfl,v2,hh2,rfl⟩;obtain⟨base,hbase⟩:∃base,base=bs++[108]++XO l.length:=⟨_,rfl⟩;have hbl2:base.length<=16777300:=by rw[hbase];simp;omega
 have hwr:bs++wr (.mk k n s l)=base++YZ l:=by rw[hbase,wr,ac (by simpa using hc48),ac (by simpa using hc78)];simp
 rw[<-hbase];try simp only[cB]
 refine Qd (k27 (cS λ_ k28=>Qc (Pa (Ga Gq HP) (Pa (La YY) (Pa (QV Gy) (Pm (Qd (k28 (Qp (Lp (λ(x:Nat×Option Addr×Value×Bool×List UInt8)=>[(0,.pointer (some ⟨b,0,none⟩)),(38,.slice sq l.length cap),(39,.int .i64 (l.length:Int)),(40,.int .i64 (x.1:Int))]) (λx=>R) (λx=>wB b x.2.1 x.2.2.1 x.2.2.2.1::wS x.2.2.1 x.2.2.2.2::F) (λx=>x.1<=l.length/\gc b x.2.1/\ZL x.2.2.1/\(x.2.2.2.1=false->x.2.2.2.2=base++YZ (l.take x.1))/\(x.2.2.2.1=true->16777216<(base++YZ (l.take x.1)).length)/\x.2.2.2.2.length<=16777316) (λx=>l.length-x.1) (0,some ⟨b,0,none⟩,v2,false,base) (⟨by simp,.inr rfl,hh2,λ_=>by simp[YZ],λh=>(by cases h),by dsimp only;omega⟩) ?_))))))))));rintro⟨i,qi,vi,badi,bsi⟩ ⟨hi,hqi,hhi,hki,hbi,hli⟩;try dsimp only
 dsimp only at hi hqi hhi hki hbi hli;refine cS λ_ k29=>Qc (Pa QR (Qd (k29 (cS λ_ k30=>Qi rfl (λhc41=>?_) (λhc41=>?_)))));try simp only[dx]at hc41
 refine Qh (k30 (cS λ_ k32=>Qp (cS λ_ k33=>Qc ?_)));obtain⟨x1,hx1⟩:∃x,l[i]?=some x:=⟨l[i]'Om,by simp⟩;obtain⟨bb,off,cs,rfl,hc4,hrep,hcell⟩:=hl.at hx1;have hm1:=Gv hx1;obtain⟨k1,n1,s1,l1,q1,cap1,rfl,rfl,hs1,hl1⟩:=hrep.inv;refine Pa (QE Gy HB) (Pa ((Yq QF hc4 rfl (λj u hj=>by simpa using hcell j u hj))) (QC Qo rfl GK rfl (λb7=>Qr QF rfl Qo rfl rfl (by(first|(simp[Value.oneCell'];done)|(intro u hu;simp only[Gn,Gs,G7]at hu;rcases hu with rfl|rfl|rfl|rfl<;>first|rfl|assumption))) Qm (by(simp)) rfl ?_)));refine Qd (k33 (cE [0,7,38,39,40] ?_));refine Qc (Pm ?_);refine Pa (Lb QF) ?_;refine Ra call136 (ih (SizeOf.sizeOf (Nd.mk k1 n1 s1 l1)) (by have:=JE hm1;simp at hN this|-;omega) _ _ b qi vi badi bsi (Gl _) hrep (hkids _ hm1) hqi hhi hli) ?_;rintro r R' L' hR ⟨rfl,q',v',bad',bs',hq',hh',rfl,w1,w2,w3,w4⟩;have w5:bad'=false->badi=false:=λh=>by cases hb:badi;rfl;have hw:=w1 hb;rw[hw]at h;cases h
 have w6:bad'=true->16777216<(base++YZ (l.take (i+1))).length:=λh=>by cases hb:badi;have:=w3 hb h;rw[hki hb]at this;rw[bI hx1,<-GA];exact this;have:=hbi hb;rw[bI hx1];simp at this|-;omega
 try simp only[cB]
 refine Qd (k32 (Qc (Pa Qz (Pm (Qd (ro rfl (rd ((i+1,q',v',bad',bs')) (⟨by dsimp only;omega,hq',hh',λhf=>by dsimp only at hf|-;rw[w2 hf,hki (w5 hf),bI hx1,GA],λht=>w6 ht,by dsimp only;omega⟩) Do)))))));try simp only[dx]at hc41
 refine QG (n_ (Et Ko [wB b qi vi badi,wS vi bsi] QB ⟨rfl,qi,vi,badi,bsi,hqi,hhi,rfl,λh=>(by cases h),λh=>?_,λ_ h=>?_,.inr hli⟩));.rw[hwr,hki h,Gx Om]
 rw[hwr];have:=hbi h;rwa [Gx Om]at this
noncomputable def YQ(x:Nd):List UInt8×Bool:=if Xu 20 x=true/\(wr x).length<=16777216 then(wr x,true)else([],false)
def Bq(x:Nd)(cx:List Value)(hx:RepN R x cx)(hok:OkN x):QTri prog 122 [.agg ⟨cx⟩] R [] (.tuple #[.string (Qs (YQ x).1),.bool (YQ x).2]):=by
 obtain⟨k,n,s,l,q,cap,rfl,rfl,hs,hl⟩:=hx.inv;obtain⟨x,hxe⟩:∃x,x=Nd.mk k n s l:=⟨_,rfl⟩;have h2:=uU x;refine Tri.q (To func122 ntmps122 λ_ F _ r_ _ _=>?_);try simp only[cB]
 refine cS λ_ k1=>Qc (Xc Qo rfl rfl rfl (λb1=>Ps (Ps (Qd (k1 (cS λ_ k2=>cS λ_ k3=>Qc (Pa (Lb QF) (Pa (Ca call135 (wC _ _ hx)) (Pa Xa (Qd (k3 (Qi rfl (λhc7=>?_) (λhc7=>?_)))))))))))))
 (try simp only[dx]at hc7);have hr:¬Xu 20 x=true:=by rw[hxe];simpa using hc7
 refine cS λ_ k5=>Qc (Ps (Ps (Qd (k5 (Qg (r_ (Es Lz [] ?_)))))));rw[<-hxe,show YQ x=([],false)by unfold YQ;rw[ac (λh=>hr h.1)]];exact⟨rfl,rfl,rfl⟩
 (try simp only[dx]at hc7);have hr:Xu 20 x=true:=by rw[hxe];simpa using hc7
 refine Qh (k2 (cS λ_ k6=>Qc (QC Qo rfl zeroValue209 rfl (λbw=>Zb (A:=wS (.slice none 0 0) []) (Yr _ _) (Qd (k6 (cS λ_ k7=>Qc (Pa (Lb QF) (Ra call136 (Bu _ _ _ bw none (.slice none 0 0) false [] (Gl _) hx hok (.inl rfl) uA Si) ?_)))))))));rintro r R' L' hR ⟨rfl,q',v',bad',bs',hq',hh',rfl,w1,w2,w3,w4⟩;rw[<-hxe]at w2 w3;simp only[Hr]at w2 w3;try simp only[cB]
 refine Qd (k7 (cS λ_ k8=>cS λ_ k9=>Qc (Pa (Ga H6 Il) (Pa (La o4) (Pm (QM 12 rfl (λhg12=>?_) (λhg12=>?_)))))))
 (try simp only[dx]at hg12);have hr2:¬(wr x).length<=16777216:=by have:=w3 trivial (by simpa using hg12);omega
 refine Pk (Pk (Pk (Pa Qq (Qd (k9 (QD rfl (cS λ_ k10=>Qc (Ps (Ps (Qd (k10 (Qg (r_ (Es Lz [] ?_))))))))))))));rw[<-hxe,show YQ x=([],false)by unfold YQ;rw[ac (λh=>hr2 h.2)]];exact⟨rfl,rfl,rfl⟩
 (try simp only[dx]at hg12);have e1:bs'=wr x:=w2 (by simpa using hg12)
 subst e1;refine Pb (Ga H6 Je) (Pb (Ca call137 (p9 bw q' v' bad' (wr x))) (Pb XG (Pa Qn (Qd (k9 (cE [4,16] (Qi rfl (λhc16=>?_) (λhc16=>?_))))))));try simp only[dx]at hc16
 refine cS λ_ k12=>Qc (Ps (Ps (Qd (k12 (Qg (r_ (Es Lz [] ?_)))))));rw[<-hxe,show YQ x=([],false)by unfold YQ;rw[ac (λh=>by have:=h.2;(try simp at hc16);omega)]];exact⟨rfl,rfl,rfl⟩;try simp only[dx]at hc16
 refine Qh (k8 (cS λ_ k13=>Qc (Pa (Ga H6 Je) (Ra call138 (w9 bw q' v' bad' (wr x) hh' Om (by(try simp at hc16);omega)) ?_))));rintro r R' L' hR ⟨rfl,rfl,rfl⟩;try simp only[cB]
 refine Ps (Ps (Qd (k13 (Qg (r_ (Es Lz [] ?_))))));rw[<-hxe,show YQ x=(wr x,true)by unfold YQ;rw[an ⟨hr,by(try simp at hc16);omega⟩]];exact⟨rfl,rfl,rfl⟩
@[reducible] def rB (b : Nat) (s : List UInt8) (bad : Bool) : Qj := QA b [.string (Qs s), .bool bad] 174
def XR(s:List UInt8)(bad:Bool)(n:Nat):List UInt8×List UInt8×Bool:=if bad=true\/s.length<n then([],s,true)else(s.take n,s.drop n,false)
def fI(s:List UInt8)(n:Nat):XR s true n=([],s,true):=by simp[XR]
def dK(b:Nat)(s:List UInt8)(bad:Bool)(n:Nat)(hs:s.length<=big)(hn:n<=big):Tri prog 115 [.pointer (some ⟨b,0,none⟩),.int .i64 (n:Int)] R [rB b s bad]
  (λr R' L'=>R=R'/\r=.string (Qs (XR s bad n).1)/\L'=[rB b (XR s bad n).2.1 (XR s bad n).2.2]):=by
 unfold big at hs hn;refine To func115 ntmps115 λ_ F _ r_ _ _=>?_;try simp only[cB]
 refine cS λ_ k1=>Qc (Ps (Qd (k1 (cS λ_ k2=>cS λ_ k3=>Qc (Pm (Pa Qe (Pa (Ga HT Il) ?_)))))));refine Pa (La o4) (Pm (QM 10 rfl (λhg10=>?_) (λhg10=>?_)));subst hg10;refine Pk (Pk (Pk (Pk (Pk (Pk (Pk (Pa Qq (Qd (k3 (QD rfl (cS λ_ k4=>Qc (Pm (Pa Qe (Pa (Ga HT Il) ?_))))))))))))));refine Sa o4 (Qd (k4 (cE [] (cS λ_ k5=>Qc (Ps (Qd (k5 (Qg (r_ (Es MP [rB b s true] ?_))))))))));rw[show XR s true n=([],s,true)from fI s n];exact⟨rfl,rfl,rfl⟩;subst hg10;refine Pb Qf (Pb Qf (Pb Qe (Pb (Ga HT Ic) (Pb (La o9) (Pb (YP GZ) (Pb XG (Pa Qn (Qd (k3 (cE [0,1,18] (Qi rfl (λhc18=>?_) (λhc18=>?_))))))))))));try simp only[dx]at hc18
 refine cS λ_ k7=>Qc (Pm (Pa Qe (Pa (Ga HT Il) ?_)));refine Sa o4 (Qd (k7 (cE [] (cS λ_ k8=>Qc (Ps (Qd (k8 (Qg (r_ (Es MP [rB b s true] ?_))))))))));rw[show XR s false n=([],s,true)by unfold XR;rw[an (.inr (by simp at hc18;omega))]];exact⟨rfl,rfl,rfl⟩;try simp only[dx]at hc18
 refine Qh (k2 (cS λ_ k9=>Qc (Pm (Pa Qe (Pa (Ga HT Ic) ?_)))));refine Pa (La o9) (Pm ?_);refine Pa (fC GZ rfl rfl Qu) (Ps (Qd (k9 (cS λ_ k10=>Qc (Pm (Pm (Pa Qe (Pa (Ga HT Ic) ?_))))))));refine Pa (La o9) (Pm ?_);refine Pa (fB GZ rfl rfl Qu) (Pa Qe (Pa (Ga HT Ic) (Sa o9 (Qd (k10 (cE [5] ?_))))));refine cS λ_ k11=>Qc (Pm (Ps (Qd (k11 (Qg (r_ (Es MP [rB b (s.drop n) false] ?_)))))));rw[show XR s false n=(s.take n,s.drop n,false)by unfold XR;rw[ac (by simp at hc18|-;omega)]];exact⟨rfl,rfl,rfl⟩
def EZ(u:UInt8):kS .u8 (u.toNat:Int) 127=((u.toNat%128:Nat):Int):=by
 have key:∀A:Fin 256,kS .u8 ((A.val:Nat):Int) 127=((A.val%128:Nat):Int):=by decide+kernel
 exact key ⟨u.toNat,u.toNat_lt⟩
def wi(A B s:Nat)(hA:A<2^s)(h:A+B*2^s<9223372036854775808):zs .i64 ((A:Nat):Int) ((B*2^s:Nat):Int)=((A+B*2^s:Nat):Int):=by
 have h2:(BitVec.ofInt 64 (A:Int)|||BitVec.ofInt 64 ((B*2^s:Nat):Int)).toNat=A+B*2^s:=by
  simp only[MG,BitVec.toNat_or,M5];rw[Jg Om,Jg Om];have:=Ly (i:=s) (b:=A) hA B;rw[I0 B,Nat.or_comm,<-this];omega
 have h3:zs .i64 ((A:Nat):Int) ((B*2^s:Nat):Int)=IntKind.i64.wrap ((A+B*2^s:Nat):Int):=by rw[<-h2];rfl
 rw[h3];exact qX ⟨Om,Om⟩
def gL(m j:Nat)(z:Int)(hz:z=j)(hj:j<=63)(h:m*2^j<9223372036854775808):IntKind.i64.wrap ((m:Int)*2^min z.toNat IntKind.i64.bits)=((m*2^j:Nat):Int):=by
 subst hz;have:min (j:Int).toNat IntKind.i64.bits=j:=by simp[IntKind.bits,Hc];omega
 rw[this];have e:((m:Int)*2^j)=((m*2^j:Nat):Int):=by rw[Kt,Int.natCast_pow];rfl
 rw[e];exact qX ⟨Om,Om⟩
def rr{s:List UInt8}(h:(XR s false 1).2.2=true):s=[]:=by
 cases s with
 |nil=>rfl
 |cons u r=>simp[XR]at h
def rt{s:List UInt8}(h:(XR s false 1).2.2=false):∃u r,s=u::r:=by
 cases s with
 |nil=>simp[XR]at h
 |cons u r=>exact⟨u,r,rfl⟩
def cQ(u:UInt8)(r:List UInt8):XR (u::r) false 1=([u],r,false):=by simp[XR]
def tZ(b:Nat)(s:List UInt8)(hs:s.length<=big):Tri prog 116 [.pointer (some ⟨b,0,none⟩)] R [rB b s true]
  (λr R' L'=>R=R'/\r=.int .i64 0/\L'=[rB b s true]):=by
 refine To func116 ntmps116 λ_ F _ r_ _ _=>?_;try simp[cB]
 refine cS λ_ k1=>Qc (Ps (Qd (k1 (cS λ_ k2=>Qc (Ps (Qd (k2 (cS λ_ k3=>cS λ_ k4=>Qc (Pm (Qd (k4 (Qp (pY (cS λ_ k5=>Qc (Pa (QR rfl rfl) (Qd (k5 (cS λ_ k6=>QD rfl (Qh (k6 (cS λ_ k7=>Qp (cS λ_ k8=>Qc (Pm (Ps (Qd (k8 (cS λ_ k9=>Qc (Pm (Ra Mi (dK b s true 1 hs Dc) ?_)))))))))))))))))))))))))))));rintro r R' L' hR ⟨rfl,rfl,rfl⟩;rw[fI];try simp[cB]
 refine Ps (Qd (k9 (cS λ_ k10=>cS λ_ k11=>Qc (Pm (Pa Qe (Pa (Ga HT Il) ?_))))));refine Pa (La o4) (Qd (k11 (Qi rfl (λhc14=>?_) (λhc14=>?_))));try simp[dx]at hc14
 exact cS λ_ k13=>Qc (Ps (Qd (k13 (Qg (r_ (Es KT [rB b s true] ⟨rfl,rfl,rfl⟩))))));cases hc14
def Bm(s:List UInt8)(r:Value)(m:Nat)(s':List UInt8)(bad':Bool):Prop:=
 r=.int .i64 (m:Int)/\s'.length<=s.length/\m<268435456/\(∀n q,ZE 4 0 0 s=some (n,q)->m=n/\s'=q/\bad'=false)/\(ZE 4 0 0 s=none->bad'=true)
def ki{s r1:List UInt8}{acc:Nat}{u:UInt8}(hsz:ZE 4 0 0 s=if u.toNat=0/\i>0 then none else some (acc+u.toNat*128^i,r1))(hu:u.toNat<128)(hl:r1.length<=s.length)
  (hm:acc+u.toNat%128*2^(7*i)<268435456) (hb:bad=decide (u.toNat=0/\i>0)):Bm s (.int .i64 ((acc+u.toNat%128*2^(7*i):Nat):Int)) (acc+u.toNat%128*2^(7*i)) r1 bad:=by
 have e:acc+u.toNat%128*2^(7*i)=acc+u.toNat*128^i:=by rw[MC,Jg hu]
 refine⟨rfl,hl,hm,λn q h=>?_,λh=>?_⟩
 .rw[hsz]at h;split at h;.cases h
  rename_i hc;simp[Hi,KP]at h;exact⟨by rw[e,h.1],h.2,by rw[hb];exact decide_eq_false hc⟩
 rw[hsz]at h;split at h;.rename_i hc;rw[hb];exact IS hc
 cases h
def B1(b:Nat)(s:List UInt8)(hs:s.length<=big):Tri prog 116 [.pointer (some ⟨b,0,none⟩)] R [rB b s false]
  (λr R' L'=>R=R'/\∃m s' bad',Bm s r m s' bad'/\L'=[rB b s' bad']):=by
 refine To func116 ntmps116 λ_ F _ r_ _ _=>?_;try simp only[cB]
 refine cS λ_ k1=>Qc (Ps (Qd (k1 (cS λ_ k2=>Qc (Ps (Qd (k2 (cS λ_ k3=>cS λ_ k4=>Qc (Pm (Qd (k4 (Qp (Lp (λ(x:Nat×Nat×List UInt8)=>[(0,.pointer (some ⟨b,0,none⟩)),(3,.int .i64 (x.2.1:Int)),(6,.int .i64 (x.1:Int))]) (λx=>R) (λx=>rB b x.2.2 false::F) (λx=>x.1<=4/\x.2.1<128^x.1/\ZE 4 0 0 s=ZE (4-x.1) x.1 x.2.1 x.2.2/\x.2.2.length<=s.length) (λx=>4-x.1) (0,0,s) (⟨by simp,by simp,rfl,Gl _⟩) ?_)))))))))))));rintro⟨i,acc,s1⟩ ⟨hi,ha,hz,hl⟩;try dsimp only
 dsimp only at hi ha hz hl;refine cS λ_ k5=>Qc (Pa QR (Qd (k5 (cS λ_ k6=>Qi rfl (λhc7=>?_) (λhc7=>?_)))));try simp only[dx]at hc7
 refine Qh (k6 (cS λ_ k8=>Qp (cS λ_ k9=>Qc ?_)));obtain⟨f,hf⟩:∃f,4-i=f+1:=⟨3-i,by omega⟩;have h7:(2:Nat)^(7*i)=128^i:=by rw[MC]
 have hp:128^i<=128^3:=JM Om Om;have hp3:(128:Nat)^3=2097152:=by decide
 refine Pm (Ps (Qd (k9 (cS λ_ k10=>Qc (Pm (Ra Mi (dK b s1 false 1 (Hn hl hs) Dc) ?_))))));rintro r R' L' hR ⟨rfl,rfl,rfl⟩;try simp only[cB]
 refine Ps (Qd (k10 (cS λ_ k11=>cS λ_ k12=>Qc (Pm (Pa Qe (Pa (Ga HT Il) ?_))))));refine Pa (La o4) (Qd (k12 (Qi rfl (λhc14=>?_) (λhc14=>?_))));obtain rfl:=rr hc14;rw[show XR [] false 1=([],[],true)by simp[XR]];refine cS λ_ k14=>Qc (Ps (Qd (k14 (Qg (r_ (Es KT [rB b [] true] ⟨rfl,0,[],true,⟨rfl,by simp,by decide,λn q h=>?_,λ_=>rfl⟩,rfl⟩))))));rw[hz,hf]at h;cases h;obtain⟨u,r1,rfl⟩:=rt hc14;rw[cQ];have hm1:u.toNat%128*2^(7*i)<=127*128^i:=by rw[h7];exact Hv _ Om
 have hul:=u.toNat_lt;refine Qh (k11 (cS λ_ k15=>Qc (Pm (Pm ?_))));refine Pa (Zg GZ) (Xx 17 rfl (v':=.int .u8 (u.toNat:Int)) rfl (Pa (Fa rfl rfl) (Xx 18 rfl (GM _ (EZ u)) (Pa (XE HN HA rfl (by(simp only[IntKind.min,IntKind.max,IntKind.signed,IntKind.bits,GP,H3,H7];omega))) (Pm ?_)))));refine Pa (dA rfl rfl Qu) (Pa (j9 rfl rfl Qu) ?_);refine Xx 22 rfl (GM _ (gL (u.toNat%128) (7*i) _ Om Om Om)) (Pa kY ?_);refine Xx 23 rfl (GM _ (wi acc (u.toNat%128) (7*i) (by rw[h7];exact ha) Om)) (Ps (Qd (k15 (cE [0,3,4,5,6] ?_))));refine cS λ_ k16=>Qc (Pm ?_);refine Pa (Zg GZ) (Xx 25 rfl (v':=.int .u8 (u.toNat:Int)) rfl (Pa QR (Qd (k16 (Qi rfl (λhc26=>?_) (λhc26=>?_))))))
 (try simp only[dx]at hc26)
 have hsz:ZE 4 0 0 s=if u.toNat=0/\i>0 then none else some (acc+u.toNat*128^i,r1):=by rw[hz,hf,ZE,an (by(try simp at hc26);omega)]
 refine cS λ_ k18=>Qc (Pm (Pm ?_));refine Pa (Zg GZ) (Xx 29 rfl (v':=.int .u8 (u.toNat:Int)) rfl (Pa QL (Pm (QM 31 rfl (λhg31=>?_) (λhg31=>?_)))))
 (try simp only[dx]at hg31)
 refine Pb Qf (Pb XG (Pa Qq (Pa Qe (Pa (Ga HT Il) (Sa o4 (Qd (k18 (cS λ_ k19=>Qc (Pm (Ps (Qd (k19 (Qg (r_ (Es KT [rB b r1 (decide ((i:Int)>0))] ?_)))))))))))))));exact⟨rfl,_,r1,_,ki hsz (by(try simp at hc26);omega) (by simp at hl;omega) Om (by(try simp at hg31);simp;omega),rfl⟩
 (try simp only[dx]at hg31)
 refine Pk (Pk (Pa Qn (Pa Qe (Pa (Ga HT Il) (Sa o4 (Qd (k18 (cE [3] ?_))))))));refine cS λ_ k20=>Qc (Pm (Ps (Qd (k20 (Qg (r_ (Es KT [rB b r1 false] ?_)))))));exact⟨rfl,_,r1,_,ki hsz (by(try simp at hc26);omega) (by simp at hl;omega) Om (by(try simp at hg31);simp;omega),rfl⟩;try simp only[dx]at hc26
 refine Qh (k8 (Qc (Pa Qz (Pm (Qd (ro rfl (rd ((i+1,acc+u.toNat%128*2^(7*i),r1)) (⟨by dsimp only;omega,by dsimp only;rw[In];omega,by dsimp only;rw[hz,hf,ZE,ac (by(try simp at hc26);omega),h7,show u.toNat%128=u.toNat-128 by have:=u.toNat_lt;simp at hc26;omega];congr 1;omega,by dsimp only;simp at hl;omega⟩) Do)))))));try simp only[dx]at hc7
 refine QG (k3 (cS λ_ k21=>Qc (Pm (Pa Qe (Pa (Ga HT Il) ?_)))));refine Sa o4 (Qd (k21 (cE [] (cS λ_ k22=>Qc (Ps (Qd (k22 (Qg (r_ (Es KT [rB b s1 true] ⟨rfl,0,s1,true,⟨rfl,hl,by decide,λn q h=>?_,λ_=>rfl⟩,rfl⟩))))))))));rw[hz,show 4-i=0 by omega]at h;cases h
def t4(b:Nat)(s:List UInt8)(bad:Bool)(hs:s.length<=big):Tri prog 116 [.pointer (some ⟨b,0,none⟩)] R [rB b s bad]
  (λr R' L'=>R=R'/\∃(m:Nat) (s':List UInt8) (bad':Bool),r=.int .i64 (m:Int)/\L'=[rB b s' bad']/\s'.length<=s.length/\m<268435456/\(bad=true->bad'=true)/\(bad=false->bad'=false->ZE 4 0 0 s=some (m,s'))/\(bad=false->bad'=true->ZE 4 0 0 s=none)):=by
 cases bad with
 |true=>
  refine(tZ b s hs).mono ?_ (λ_ _ _ _ h=>h);rintro v R' L' hR ⟨h1,h2,h3⟩;exact⟨h1,0,s,true,h2,h3,Gl _,Dc,λ_=>rfl,λh=>(by cases h),λh=>(by cases h)⟩
 |false=>
  refine(B1 b s hs).mono ?_ (λ_ _ _ _ h=>h);rintro v R' L' hR ⟨h1,m,s',bad',⟨h2,h3,h4,h5,h6⟩,h7⟩;refine⟨h1,m,s',bad',h2,h7,h3,h4,λh=>(by cases h),λ_ hb=>?_,λ_ hb=>?_⟩
  .cases hz:ZE 4 0 0 s with
   |none=>rw[h6 hz]at hb;cases hb
   |some q=>obtain⟨n,r⟩:=q;let⟨rfl,rfl,_⟩:=h5 n r hz;rfl
  cases hz:ZE 4 0 0 s with
  |none=>rfl
  |some q=>obtain⟨n,r⟩:=q;let⟨_,_,h⟩:=h5 n r hz;rw[h]at hb;cases hb
def FT(b d:Nat)(s:List UInt8)(bad:Bool)(v:Value)(R':Hp)(L':List Qj):Prop:=
 ∃y cy s' bad',v=.agg ⟨cy⟩/\RepN R' y cy/\L'=[rB b s' bad']/\s'.length<=s.length/\(bad=true->bad'=true)/\(bad=false->bad'=false->Yy d s=some (y,s'))/\(bad=false->bad'=true->Yy d s=none)
def jp(s:List UInt8)(n:Nat):((XR s false n).2.2=true/\(XR s false n).1=[]/\(XR s false n).2.1=s/\s.length<n)\/((XR s false n).2.2=false/\(XR s false n).1=s.take n/\(XR s false n).2.1=s.drop n/\n<=s.length):=by
 unfold XR;by_cases h:s.length<n;.simp[h]
 simp[h];omega
def yS(R:Hp):RepN R yk [.int .i64 0,.int .u64 0,.string (Qs []),.slice none 0 0]:=RepL.node (k:=0) (n:=0) (s:=[]) (by simp[big]) (RepL.nil R)
def p7(h:i<t.length):zM (t.take (i+1))=zM (t.take i)*256+(XY t (i:Int)).toNat:=by
 rw[HV];have:t[i]?=some (t[i]):=by simp[h]
 rw[this];simp only[Option.toList_some];rw[j5];simp[XY,h]
def sh{f:List UInt8->Option (Nd×List UInt8)}{n:Nat}{s:List UInt8}(h:yO f n s=(yO f m s').map (λp=>(ks++p.1,p.2))){r:List UInt8}{m':Nat}(hm:m=m'+1)(hy:f s'=some (y,r)):
  yO f n s=(yO f m' r).map (λp=>((ks++[y])++p.1,p.2)):=by
 rw[h,hm,yO,hy];simp only;cases yO f m' r with
 |none=>rfl
 |some q=>simp
def oI{f:List UInt8->Option (Nd×List UInt8)}{n:Nat}{s:List UInt8}(h:yO f n s=(yO f m s').map (λp=>(ks++p.1,p.2))){m':Nat}(hm:m=m'+1)(hy:f s'=none):yO f n s=none:=by
 rw[h,hm,yO,hy];rfl
def Kids(R:Hp)(ks:List Nd)(css:List (List Value)):Prop:=css.length=ks.length/\∀(i:Nat) (x:Nd) (cs:List Value),ks[i]?=some x->css[i]?=some cs->RepN R x cs
def Kids.mono{R R':Hp}(h:R.le R'){ks:List Nd}{css:List (List Value)}(k:Kids R ks css):Kids R' ks css:=⟨k.1,λi x cs h1 h2=>(k.2 i x cs h1 h2).mono h⟩
def Kids.snoc(k:Kids R ks css)(h:RepN R y cy):Kids R (ks++[y]) (css++[cy]):=by
 refine⟨by simp[k.1],λi x cs h1 h2=>?_⟩;rcases HK i ks.length with hi|hi
 .rw[GG hi]at h1;rw[GG (by rw[k.1];exact hi)]at h2;exact k.2 i x cs h1 h2
 rw[GY hi]at h1;rw[GY (by rw[k.1];exact hi),k.1]at h2;cases hd:i-ks.length with
 |zero=>rw[hd]at h1 h2;simp at h1 h2;subst h1 h2;exact h
 |succ n=>rw[hd]at h1;simp at h1
def xM(h:RepN R x cs):cs.length=4:=by
 obtain⟨_,_,_,_,_,_,_,rfl,_⟩:=h.inv;rfl
def yI(h:RepN R x cs):∀u∈cs,u.oneCell'=true:=by
 obtain⟨_,_,_,_,_,_,_,rfl,_⟩:=h.inv;intro u hu;simp at hu;rcases hu with rfl|rfl|rfl|rfl<;>rfl
def pF:∀(css:List (List Value)) (i:Nat) (cs:List Value) (j:Nat) (u:Value),(∀c∈css,c.length=4)->css[i]?=some cs->cs[j]?=some u->css.flatten[i*4+j]?=some u
 |[],i,cs,j,u,_,h,_=>by simp at h
 |c::css,0,cs,j,u,h4,h,hj=>by
  simp at h;subst h
  have:=(Gj.1 hj).1
  simp[Iw,Nat.zero_mul,H4]
  rw[GG this,hj]
 |c::css,i+1,cs,j,u,h4,h,hj=>by
  have hc:=h4 c Si
  simp[Iw]
  rw[GY Om,hc,show(i+1)*4+j-4=i*4+j by omega]
  exact pF css i cs j u (λx hx=>h4 x (by simp[hx])) (by simpa using h) hj
def Kids.four(k:Kids R ks css):∀c∈css,c.length=4:=λc hc=>by
 obtain⟨i,hi,rfl⟩:=Ij hc;exact xM (k.2 i (ks[i]'(by rw[<-k.1];exact hi)) _ Si (by simp[hi]))
def Kids.repL(k:Kids R ks css)(h:FrozenS R v ks.length css.flatten)(hb:ks.length<=big):∃q cap,v=.slice q ks.length cap/\RepL R ks q cap:=by
 rcases h with⟨rfl,h0⟩|⟨b,off,cap,rfl,h1,h2,h3⟩;.have:ks=[]:=Hk h0;subst this;exact⟨none,0,rfl,RepL.nil R⟩
 refine⟨_,cap,rfl,css,hb,k.1,h1,h2,λi x cs e1 e2=>k.four cs (Gv e2),k.2,.inr ⟨b,off,rfl,λi cs j u e1 e2=>?_⟩⟩;rw[HQ];exact h3 _ _ (pF css i cs j u k.four e1 e2)
set_option maxHeartbeats 4000000
def xZ(X:Nat)(B:Int)(hB:0<=B/\B<256)(hX:X<72057594037927936):zs .u64 (IntKind.u64.wrap ((X:Int)*2^min (8:Int).toNat IntKind.u64.bits)) B=((X*256+B.toNat:Nat):Int):=by
 obtain⟨A,rfl⟩:=Hu hB.1;have hA:A<2^8:=Om;have e0:((X:Int)*2^min (8:Int).toNat IntKind.u64.bits)=((X*256:Nat):Int):=by
  have:min (8:Int).toNat IntKind.u64.bits=8:=Dc;rw[this];omega
 rw[e0,yF ⟨Om,Om⟩];have h2:(BitVec.ofInt 64 ((X*256:Nat):Int)|||BitVec.ofInt 64 (A:Int)).toNat=X*256+A:=by
  simp only[MG,BitVec.toNat_or,M5];rw[Jg Om,Jg Om];have:=Ly (i:=8) (b:=A) hA X;rw[I0 X 256];exact this.symm
 have h3:zs .u64 ((X*256:Nat):Int) (A:Int)=IntKind.u64.wrap ((X*256+A:Nat):Int):=by rw[<-h2];rfl
 rw[h3,yF ⟨Om,Om⟩];simp
def BI{e:Nat}{s:List UInt8}{bad2:Bool}(hb:bad=false)(h:bad2=true)(z3:(XR s bad 1).2.2=false->bad2=true->ZE 4 0 0 (XR s bad 1).2.1=none):Yy (e+1) s=none:=by
 subst hb;cases s with
 |nil=>rfl
 |cons k r=>
  rw[cQ]at z3;rw[Yy,z3 rfl h]
def BH{s s2:List UInt8}{bad2:Bool}(h:bad2=false)(z1:(XR s bad 1).2.2=true->bad2=true)(z2:(XR s bad 1).2.2=false->bad2=false->ZE 4 0 0 (XR s bad 1).2.1=some (m,s2)):
  bad=false/\∃k r,s=k::r/\ZE 4 0 0 r=some (m,s2)/\(XR s bad 1).1=[k]:=by
 cases bad with
 |true=>rw[fI]at z1;rw[z1 rfl]at h;cases h
 |false=>
  cases s with
  |nil=>rw[show XR [] false 1=([],[],true)by simp[XR]]at z1;rw[z1 rfl]at h;cases h
  |cons k r=>rw[cQ]at z2|-;exact⟨rfl,k,r,rfl,z2 rfl h,rfl⟩
def mO(h:0<t.length):(XY t 0=0)↔t.head?=some 0:=by
 cases t with
 |nil=>simp at h
 |cons u t=>
  simp[XY,Int.toNat_zero,List.getD_cons_zero,List.head?_cons,Hi];constructor;.intro h;exact Kq.1 (by simpa using h)
  rintro rfl;rfl
def nb(h8:t.length<=8)(hi:i<t.length):zM (t.take i)<72057594037927936:=by
 have h1:=EU (t.take i);have h2:(t.take i).length<=7:=by rw[GX];omega
 have h3:256^(t.take i).length<=256^7:=JM Om h2;omega
def gv(css:List (List Value))(cy:List Value):css.flatten++cy=(css++[cy]).flatten:=Si
def pi(ks:List Nd)(y:Nd):ks.length+1=(ks++[y]).length:=Si
def rh(r:Option (Nd×List UInt8))(tk:List UInt8×List UInt8×Bool)(x:Bool):Prop:=
 (x=true->r=none)/\(x=false->tk.2.2=false->r=some (.mk 0 (zM tk.1) [] [],tk.2.1))/\(tk.2.2=true->r=none)/\(x=false->tk.1.length<=8)
section
variable{r:Option (Nd×List UInt8)}{s2:List UInt8}{m:Nat}{tk:List UInt8×List UInt8×Bool}
 (hr:r=(if m>8\/s2.length<m\/(m>0/\s2.head?=some 0)then none else some (.mk 0 (zM (s2.take m)) [] [],s2.drop m))) (htk:tk=XR s2 false m)
include hr htk
omit htk in
def Fu(h:m>8):rh r tk true:=by
 have:r=none:=by rw[hr,an (.inl h)]
 exact⟨λ_=>this,λh=>(by cases h),λ_=>this,λh=>(by cases h)⟩
def Ft(h8:¬m>8)(h0:m>0)(hb:tk.2.2=false):rh r tk (decide (XY tk.1 0=0)):=by
 have hs:=jp s2 m;rw[<-htk]at hs;let⟨_,h1,h2,h3⟩:=hs.resolve_left (by rw[hb];simp);have hl:tk.1.length=m:=by rw[h1,GX];omega
 have hh:tk.1.head?=s2.head?:=by
  rw[h1];cases s2 with
  |nil=>simp at h3;omega
  |cons u t=>cases m with
   |zero=>omega
   |succ m=>rfl
 have hk:=mO (t:=tk.1) Om;rw[hh]at hk;refine⟨λh=>?_,λh _=>?_,λh=>(by rw[hb]at h;cases h),λ_=>Om⟩;.rw[hr,an (.inr (.inr ⟨h0,hk.1 (IY h)⟩))]
 rw[hr,h1,h2,ac];rintro(h|h|⟨_,h⟩);.exact h8 h
 .omega
 exact MQ ‹_› (hk.2 h)
def Fq(hb:tk.2.2=true):rh r tk false:=by
 have hs:=jp s2 m;rw[<-htk]at hs;let⟨_,h1,h2,h3⟩:=hs.resolve_right (by rw[hb];simp);have:r=none:=by rw[hr,an (.inr (.inl h3))]
 exact⟨λh=>(by cases h),λ_ h=>(by rw[hb]at h;cases h),λ_=>this,λ_=>by rw[h1];simp⟩
def Fo(h0:m=0):rh r tk false:=by
 have hs:=jp s2 m;rw[<-htk]at hs;let⟨h4,h1,h2,h3⟩:=hs.resolve_left (by rintro⟨_,_,_,h⟩;omega);refine⟨λh=>(by cases h),λ_ _=>?_,λh=>(by rw[h4]at h;cases h),λ_=>by rw[h1];simp;omega⟩;rw[hr,h1,h2,ac Om]
end
def kW(d:Nat):Prop:=∀(b:Nat) (s:List UInt8) (bad:Bool) {R:Hp},d<=20->s.length<=big->
  Tri prog 103 [.pointer (some ⟨b,0,none⟩),.int .i64 (d:Int)] R [rB b s bad] (λr R' L'=>FT b d s bad r R' L')
def t5:kW 0:=by
 intro b s bad R hd hs;refine To func103 ntmps103 λ_ F _ r_ _ _=>?_;try simp[cB]
 refine cS λ_ k1=>Qc (QC Qo rfl GK rfl (λb4=>Qd (k1 (cS λ_ k2=>cS λ_ k3=>Qc (Pm (Pa QL (Qd (k3 (QD rfl (cS λ_ k4=>Qc (Pm (Pa Qe (Pa (Ga HT Il) ?_)))))))))))));refine Sa o4 (Qd (k4 (cS λ_ k5=>Qc (Pa (Xh (cells:=[_,_,_,_]) [(0,1),(1,1),(2,1),(3,1)] Gq GK (λ_=>rfl)) ?_))));refine Qr QF rfl Qo rfl rfl (by(first|(simp[Value.oneCell'];done)|(intro u hu;simp[Gn,Gs,G7]at hu;rcases hu with rfl|rfl|rfl|rfl<;>first|rfl|assumption))) Qm (by(simp)) rfl ?_;refine Qd (k5 (Qg (r_ (Ea JY (.cons (QP QF) .nil) [rB b s true] QB ?_))));exact⟨yk,_,s,true,rfl,yS R,rfl,Gl _,λ_=>rfl,λ_ h=>(by cases h),λ_ _=>rfl⟩
def t6(e:Nat)(ih:kW e):kW (e+1):=by
 intro b s bad R hd hs;have hs0:=hs;unfold big at hs;refine To func103 ntmps103 λσ F _ r_ _ _=>?_;try simp[cB]
 refine XN λK1 hK1=>Qc ?_;refine QC Qo rfl GK rfl (λbo=>?_);refine Qd (hK1 _ _ _ (cS λ_ k2=>cS λ_ k3=>Qc (Pm ?_)));refine Pa QL (Qd (k3 (Qt rfl (Qh (k2 (cS λ_ k4=>Qc ?_))))));refine Pm ?_;refine Ra Mi (dK b s bad 1 hs0 Dc) ?_;rintro r R' L' hR ⟨rfl,rfl,rfl⟩;have hsl:(XR s bad 1).2.1.length<=s.length:=by unfold XR;split;exact Gl _;simp
 try simp[cB]
 refine Pm ?_;refine Ra call116 (t4 b (XR s bad 1).2.1 (XR s bad 1).2.2 (Hn hsl hs0)) ?_;rintro r R' L' hR ⟨rfl,m,s2,bad2,rfl,rfl,hs2,hm,z1,z2,z3⟩;try simp[cB]
 refine Ps (Ps (Qd (k4 (XN λK5 hK5=>?_))));have hJ27:∀(x:List UInt8×Bool),x.1.length<=s.length/\(bad=false->Yy (e+1) s=none)->EJ ⟨prog,107,σ⟩ K5 [(0,.pointer (some ⟨b,0,none⟩)),(4,.pointer (some ⟨bo,0,none⟩))] R (rB b x.1 x.2::QA bo [.int .i64 0,.int .u64 0,.string (Qs []),.slice none 0 0] 150::F):=by
  rintro⟨sj,badj⟩ ⟨hj1,hj2⟩;try dsimp only
  dsimp only at hj1 hj2;refine hK5 _ _ _ (cS λ_ k6=>Qc (Pm ?_));refine Pa Qe ?_;refine Pa (Ga HT Il) ?_;refine Sa o4 ?_;refine Qd (k6 (cS λ_ k7=>Qc ?_));refine Pa (Xh (cells:=[_,_,_,_]) [(0,1),(1,1),(2,1),(3,1)] Gq GK (λ_=>rfl)) ?_;refine Qr QF rfl Qo rfl rfl (by(first|(simp[Value.oneCell'];done)|(intro u hu;simp[Gn,Gs,G7]at hu;rcases hu with rfl|rfl|rfl|rfl<;>first|rfl|assumption))) Qm (by(simp)) rfl ?_;refine Qd (k7 (Qg (r_ ?_)));refine Ea JY (.cons (QP QF) .nil) [rB b sj true] (by first|exact Hp.le_refl _|exact Hp.le_trans hr1 hR2) ?_;exact⟨yk,_,sj,true,rfl,yS R,rfl,hj1,λ_=>rfl,λ_ h=>(by cases h),λhb _=>hj2 hb⟩
 refine Qp (cS λ_ k8=>Qc (Pm ?_));refine Pa Qe ?_;refine Pa (Ga HT Il) ?_;refine Pa (La o4) (Ps (Qd (k8 ?_)));refine Qi rfl (λhc22=>?_) (λhc22=>?_);subst hc22;refine Qh ?_;refine Jn hJ27 ((s2,true)) (⟨by dsimp only;omega,λhb=>BI hb rfl z3⟩);subst hc22;obtain⟨rfl,k,r0,rfl,hz,hk⟩:=BH rfl z1 z2;have hs3:s2.length<=r0.length:=by rw[cQ]at hs2;exact hs2
 rw[hk];refine cS λ_ k10=>Qc (Pm ?_);refine Pa bH (Ps (Qd (k10 ?_)));refine cE [0,1,4,5,6,27] ?_;refine Qi rfl (λhc27=>?_) (λhc27=>?_)
 (try simp[dx]at hc27);obtain rfl:k=110:=by simpa using hc27
 refine cS λ_ k12=>Qc (Pm (Pm ?_));refine Ra Mi (dK b s2 false m (Hn hs2 (Hn hsl hs0)) (by unfold big;omega)) ?_;rintro r R' L' hR ⟨rfl,rfl,rfl⟩;have htk:=jp s2 m;obtain⟨tk,htk0⟩:∃tk,tk=XR s2 false m:=⟨_,rfl⟩;rw[<-htk0]at htk|-;have hrd:Yy (e+1) (110::r0)=(if m>8\/s2.length<m\/(m>0/\s2.head?=some 0)then none else some (.mk 0 (zM (s2.take m)) [] [],s2.drop m)):=by rw[Yy,hz];simp
 try simp[cB]
 refine Ps (Qd (k12 (cS λ_ k13=>XN λK14 hK14=>?_)));have hJ9:∀(x:Bool),rh (Yy (e+1) (110::r0)) tk x->EJ ⟨prog,107,σ⟩ K14 [(0,.pointer (some ⟨b,0,none⟩)),(4,.pointer (some ⟨bo,0,none⟩)),(7,.string (Qs tk.1)),(50,.bool x)] R (rB b tk.2.1 tk.2.2::QA bo [.int .i64 0,.int .u64 0,.string (Qs []),.slice none 0 0] 150::F):=by
  rintro x ⟨j1,j2,j3,j4⟩;try dsimp only
  have hk3:tk.2.1.length<=(110::r0).length:=by rcases htk with h|h;rw[h.2.2.1,GD];omega;rw[h.2.2.1];simp;omega
  refine hK14 _ _ _ ?_;refine Qi rfl (λhc50=>?_) (λhc50=>?_);subst hc50;refine cS λ_ k16=>Qc (Pm ?_);refine Pa Qe ?_;refine Pa (Ga HT Il) ?_;refine Sa o4 ?_;refine Qd (k16 (cS λ_ k17=>Qc ?_));refine Pa (Xh (cells:=[_,_,_,_]) [(0,1),(1,1),(2,1),(3,1)] Gq GK (λ_=>rfl)) ?_;refine Qr QF rfl Qo rfl rfl (by(first|(simp[Value.oneCell'];done)|(intro u hu;simp[Gn,Gs,G7]at hu;rcases hu with rfl|rfl|rfl|rfl<;>first|rfl|assumption))) Qm (by(simp)) rfl ?_;refine Qd (k17 (Qg (r_ ?_)));refine Ea JY (.cons (QP QF) .nil) [rB b tk.2.1 true] (by first|exact Hp.le_refl _|exact Hp.le_trans hr1 hR2) ?_;exact⟨yk,_,_,true,rfl,yS R,rfl,hk3,λ_=>rfl,λ_ h=>(by cases h),λ_ _=>j1 rfl⟩;subst hc50;refine Qh (k13 (cS λ_ k18=>Qc (Ps (Qd (k18 (cS λ_ k19=>cS λ_ k20=>Qc ?_))))));refine Pm ?_;refine Pa (YP GZ) (Pm (Qd (k20 (Qp ?_))));have h8:=j4 rfl;refine Lp (λ(x:Nat)=>[(4,.pointer (some ⟨bo,0,none⟩)),(7,.string (Qs tk.1)),(8,.int .u64 (zM (tk.1.take x):Int)),(56,.int .i64 (tk.1.length:Int)),(57,.int .i64 (x:Int))]) (λx=>R) (λx=>rB b tk.2.1 tk.2.2::QA bo [.int .i64 0,.int .u64 0,.string (Qs []),.slice none 0 0] 150::F) (λx=>x<=tk.1.length) (λx=>tk.1.length-x) 0 Si ?_;rintro i hI13;try dsimp only
  refine cS λ_ k21=>Qc ?_;refine Pa QR (Qd (k21 (cS λ_ k22=>?_)));refine Qi rfl (λhc58=>?_) (λhc58=>?_);try simp[dx]at hc58
  refine Qh (k22 (cS λ_ k24=>Qp (cS λ_ k25=>Qc (Pm (Ps (Qd (k25 (Qc ?_))))))));have hlt:=nb (t:=tk.1) (i:=i) h8 Om;have h4:=ji tk.1 i;refine Pm ?_;refine Pa (j9 rfl rfl Qu) (Pm (Pm ?_));refine Pa (Zg GZ) ?_;refine Pa ((XE HN Ib rfl (by simp[IntKind.min,IntKind.max,IntKind.signed,IntKind.bits,GP,H3];omega))) ?_;refine Pa kY ?_;refine Xx 66 rfl (v':=.int .u64 (zM (tk.1.take (i+1)):Int)) (by rw[p7 Om];exact GM _ (xZ _ _ h4 hlt)) ?_;refine Ps (Qd (k24 ?_));refine cE [4,7,8,56,57] ?_;refine Qc ?_;refine Pa Qz (Pm (Qd ?_));refine ro rfl (rd (i+1) Om Om);try simp[dx]at hc58
  refine QG (k19 (cS λ_ k26=>Qc ?_));rw[Gx Om];refine Pm ?_;refine Pa (Ca J' (yC _)) ?_;refine Qr QF rfl Qo rfl rfl (by(first|(simp[Value.oneCell'];done)|(intro u hu;simp[Gn,Gs,G7]at hu;rcases hu with rfl|rfl|rfl|rfl<;>first|rfl|assumption))) Qm (by(simp)) rfl ?_;refine Qd (k26 (Qg (r_ ?_)));refine Ea JY (.cons (QP QF) .nil) [rB b tk.2.1 tk.2.2] (by first|exact Hp.le_refl _|exact Hp.le_trans hr1 hR2) ?_;exact⟨.mk 0 (zM tk.1) [] [],_,_,_,rfl,RepL.node (by simp[big]) (RepL.nil R),rfl,hk3,λh=>(by cases h),λ_ h=>j2 rfl h,λ_ h=>j3 h⟩
 refine Qc (Pm ?_);refine Pa XG (Pm ?_);refine QM 35 rfl (λhg35=>?_) (λhg35=>?_)
 (try simp[dx]at hg35)
 refine Pk (Pk (Pk ?_));refine Xp Zx rfl rfl ?_;refine Xp Zx rfl rfl ?_;refine Xp Zx rfl rfl ?_;refine Xp Zx rfl rfl ?_;refine Xp Zx rfl rfl ?_;refine Pk (Pk ?_);refine Xp Zx rfl rfl ?_;refine Xp Zx rfl rfl ?_;refine Xp Zx rfl rfl ?_;refine Pk ?_;refine Pa Qq (Qd ?_);refine Jn hJ9 (true) (Fu hrd (by(try simp at hg35);omega))
 (try simp[dx]at hg35)
 refine Pb Qf ?_;refine Pb XG ?_;refine Pb Qf ?_;refine QM 38 rfl (λhg38=>?_) (λhg38=>?_);try simp[dx]at hg38
 refine Pb Qf ?_;refine Pb Qe ?_;refine Pb (Ga HT Il) ?_;refine Pb (La o4) ?_;refine Pb Xa ?_;refine Pb Qq ?_;refine Pb Qf ?_;refine QM 45 rfl (λhg45=>?_) (λhg45=>?_)
 (try simp[dx]at hg45)
 have hbd:tk.2.2=false:=by simpa using hg45
 have hk2:=(htk.resolve_left (by rw[hbd];simp)).2;have htl:tk.1.length=m:=by rw[hk2.1,GX];omega
 refine Pb Qf ?_;refine Pb (Zg GZ) ?_;refine Pb QL ?_;refine Pb Qq ?_;refine Pa Qn (Qd ?_);refine Jn hJ9 ((decide (XY tk.1 0=0))) (Ft hrd htk0 (by(try simp at hg35);omega) (by(try simp at hg38);omega) hbd)
 (try simp[dx]at hg45)
 have hbd:tk.2.2=true:=by simpa using hg45
 refine Pk (Pk (Pk ?_));refine Pb Qn ?_;refine Pa Qn (Qd ?_);refine Jn hJ9 (false) (Fq hrd htk0 hbd);try simp[dx]at hg38
 refine Pk (Pk (Pk (Pk (Pk ?_))));refine Pb Qn ?_;refine Pb Qf (Pk (Pk (Pk ?_)));refine Pb Qn ?_;refine Pa Qn (Qd ?_);refine Jn hJ9 (false) (Fo hrd htk0 (by(try simp at hg38);omega));try simp[dx]at hc27
 refine cS λ_ k27=>Qc (Pm ?_);refine Pa bH (Ps (Qd (k27 ?_)));refine cE [0,1,4,5,6,70] ?_;refine Qi rfl (λhc70=>?_) (λhc70=>?_)
 (try simp[dx]at hc70);obtain rfl:k=115:=by simpa using hc70
 refine cS λ_ k29=>Qc (Pm (Pm ?_));refine Ra Mi (dK b s2 false m (Hn hs2 (Hn hsl hs0)) (by unfold big;omega)) ?_;rintro r R' L' hR ⟨rfl,rfl,rfl⟩;have htk:=jp s2 m;obtain⟨tk,htk0⟩:∃tk,tk=XR s2 false m:=⟨_,rfl⟩;rw[<-htk0]at htk|-;have hrd:Yy (e+1) (115::r0)=(if s2.length<m then none else some (.mk 1 0 (s2.take m) [],s2.drop m)):=by rw[Yy,hz];simp
 have hk3:tk.2.1.length<=(115::r0).length:=by rcases htk with h|h;rw[h.2.2.1,GD];omega;rw[h.2.2.1];simp;omega
 have hk4:tk.1.length<=big:=by unfold big;rcases htk with h|h;rw[h.2.1];simp;rw[h.2.1];simp;omega
 have j2:tk.2.2=false->Yy (e+1) (115::r0)=some (.mk 1 0 tk.1 [],tk.2.1):=λh=>by rcases htk with h1|h1;rw[h1.1]at h;cases h;rw[hrd,ac Om,h1.2.1,h1.2.2.1]
 have j3:tk.2.2=true->Yy (e+1) (115::r0)=none:=λh=>by rcases htk with h1|h1;rw[hrd,an h1.2.2.2];rw[h1.1]at h;cases h
 try simp[cB]
 refine Pa (Ca call114 (oQ _)) ?_;refine Qr QF rfl Qo rfl rfl (by(first|(simp[Value.oneCell'];done)|(intro u hu;simp[Gn,Gs,G7]at hu;rcases hu with rfl|rfl|rfl|rfl<;>first|rfl|assumption))) Qm (by(simp)) rfl ?_;refine Qd (k29 (Qg (r_ ?_)));refine Ea JY (.cons (QP QF) .nil) [rB b tk.2.1 tk.2.2] (by first|exact Hp.le_refl _|exact Hp.le_trans hr1 hR2) ?_;exact⟨.mk 1 0 tk.1 [],_,_,_,rfl,RepL.node hk4 (RepL.nil R),rfl,hk3,λh=>(by cases h),λ_ h=>j2 h,λ_ h=>j3 h⟩;try simp[dx]at hc70
 refine cS λ_ k30=>Qc (Pm ?_);refine Pa bH (Ps (Qd (k30 ?_)));refine Qi rfl (λhc77=>?_) (λhc77=>?_)
 (try simp[dx]at hc77);obtain rfl:k=108:=by simpa using hc77
 refine cS λ_ k32=>Qc ?_;have hrd:Yy (e+1) (108::r0)=(match yO (Yy e) m s2 with|none=>none|some (l,r')=>some (.mk 2 0 [] l,r')):=by rw[Yy,hz];simp only;rw[ac Dc,ac Dc,an trivial];try rfl
 refine Pa (Xh (cells:=[_,_,_,_]) [(0,1),(1,1),(2,1),(3,1)] Gq GK (λ_=>rfl)) ?_;refine QC Qo rfl GK rfl (λbl=>?_);refine Qr QF rfl Qo rfl rfl (by(first|(simp[Value.oneCell'];done)|(intro u hu;simp[Gn,Gs,G7]at hu;rcases hu with rfl|rfl|rfl|rfl<;>first|rfl|assumption))) Qm (by(simp)) rfl ?_;refine Zb (A:=QN 150 4 (.slice none 0 0) 0 []) (Yr _ _) ?_;refine Qd (k32 (cS λ_ k33=>cS λ_ k34=>Qc (Ps (Qd (k34 (Qp ?_))))));refine gF (E':=(λ(x:List Nd×List (List Value)×Value×List UInt8×Bool×Hp)=>[(0,.pointer (some ⟨b,0,none⟩)),(1,.int .i64 ((e+1:Nat):Int)),(4,.pointer (some ⟨bo,0,none⟩)),(6,.int .i64 (m:Int)),(10,.pointer (some ⟨bl,0,none⟩)),(11,.int .i64 (x.1.length:Int))]) ([],[],.slice none 0 0,s2,false,R)) (eC rfl (eC rfl (eC rfl (eC rfl (eC rfl (Env.le_cons (KF rfl (GM some (by first|rfl|(exact GM (Value.int .i64) Si)))) eN)))))) ?_;refine gE (M:=(λ(x:List Nd×List (List Value)×Value×List UInt8×Bool×Hp)=>rB b x.2.2.2.1 x.2.2.2.2.1::QN 150 4 x.2.2.1 x.1.length x.2.1.flatten::QA bl [.int .i64 2,.int .u64 0,.string (Qs []),x.2.2.1] 150::QA bo [.int .i64 0,.int .u64 0,.string (Qs []),.slice none 0 0] 150::F) ([],[],.slice none 0 0,s2,false,R)) Qw ?_;refine g7 (λ(x:List Nd×List (List Value)×Value×List UInt8×Bool×Hp)=>[(0,.pointer (some ⟨b,0,none⟩)),(1,.int .i64 ((e+1:Nat):Int)),(4,.pointer (some ⟨bo,0,none⟩)),(6,.int .i64 (m:Int)),(10,.pointer (some ⟨bl,0,none⟩)),(11,.int .i64 (x.1.length:Int))]) (λ(x:List Nd×List (List Value)×Value×List UInt8×Bool×Hp)=>x.2.2.2.2.2) (λ(x:List Nd×List (List Value)×Value×List UInt8×Bool×Hp)=>rB b x.2.2.2.1 x.2.2.2.2.1::QN 150 4 x.2.2.1 x.1.length x.2.1.flatten::QA bl [.int .i64 2,.int .u64 0,.string (Qs []),x.2.2.1] 150::QA bo [.int .i64 0,.int .u64 0,.string (Qs []),.slice none 0 0] 150::F) (λ(x:List Nd×List (List Value)×Value×List UInt8×Bool×Hp)=>R.le x.2.2.2.2.2/\x.1.length<=m/\Kids x.2.2.2.2.2 x.1 x.2.1/\x.2.2.2.1.length<=s2.length/\(x.2.2.2.2.1=false->yO (Yy e) m s2=(yO (Yy e) (m-x.1.length) x.2.2.2.1).map (λp=>(x.1++p.1,p.2)))/\(x.2.2.2.2.1=true->yO (Yy e) m s2=none)) (λ(x:List Nd×List (List Value)×Value×List UInt8×Bool×Hp)=>m-x.1.length) ([],[],.slice none 0 0,s2,false,R) (⟨Hp.le_refl R,by simp,⟨rfl,λi x cs h _=>by simp at h⟩,Gl _,λ_=>by simp,λh=>(by cases h)⟩) ?_;rintro⟨ks,css,v,sj,badj,R1⟩ ⟨hr1,hi,hk,hsj,q1,q2⟩;try dsimp only
 dsimp only at hr1 hi hk hsj q1 q2;refine cS λ_ k35=>cS λ_ k36=>Qc (Pm (Pm ?_));refine Pa QR (Pm ?_);refine QM 84 rfl (λhg84=>?_) (λhg84=>?_);try simp[dx]at hg84
 refine Pb Qf ?_;refine Pb Qe ?_;refine Pb (Ga HT Il) ?_;refine Pb (La o4) ?_;refine Pb Xa ?_;refine Pa Qq (Qd (k36 ?_));refine cE [0,1,4,6,10,11,90] ?_;refine Qi rfl (λhc90=>?_) (λhc90=>?_)
 (try simp[dx]at hc90);obtain rfl:badj=false:=by simpa using hc90
 refine Qh (k35 (cS λ_ k38=>Qp ?_));refine mG (L:=[QA bl [.int .i64 2,.int .u64 0,.string (Qs []),v] 150]) [0,1,2,3,4] [5,6] [7,8,9] ?_;refine Wc rfl (Ga Gq HP) ?_;refine Wc rfl (La YY) ?_;refine Wc rfl Qf ?_;refine Wc rfl Qf ?_;refine Wc rfl ((Zs rfl rfl Qu).to (show Value.int .i64 (((e+1:Nat):Int)-1)=.int .i64 (e:Int)from GM _ Om)) ?_;refine Xq ?_;refine QT rfl ?_;try simp[cC]
 refine Ra call103 (ih b sj false Om (by unfold big;omega)) ?_;rintro r R2 L' hR2 ⟨y,cy,s4,bad4,rfl,hy,rfl,hs4,y1,y2,y3⟩;obtain⟨k1,n1,st1,l1,qq1,cap1,rfl,rfl,hb1,hl1⟩:=hy.inv;try simp[cB]
 refine QU QB Qw ?_;refine QT rfl ?_;try simp[cC]
 refine Qv (sz:=4) Qo rfl Gy HB GK rfl rfl rfl Dc Dc (λb99=>?_);refine QU QB Qw ?_;refine Xt ?_;try simp[cC]
 refine QZ (sz:=4) (by_:=56) ⟨Gy,_,_,rfl,rfl,rfl,rfl,rfl⟩ Qo rfl rfl rfl Qm (XL Gy Qm (yI hy)) rfl Qu (by simp[maxLen];omega) (λv100 ho100 hh100=>?_);rw[gv css,pi ks (Nd.mk k1 n1 st1 l1)];refine Pa (Ga Gq HP) ?_;refine Sa YY ?_;refine Qd (k38 (Qc (Pm ?_)));refine Pa Qz (Ps (Qd ?_));refine ro rfl ?_;refine fe ((ks++[Nd.mk k1 n1 st1 l1],css++[[.int .i64 k1,.int .u64 ((n1:Nat):Int),.string (Qs st1),.slice qq1 l1.length cap1]],v100,s4,bad4,R2)) (⟨Hp.le_trans hr1 hR2,by dsimp only;rw[Gm];simp;omega,(hk.mono hR2).snoc hy,by dsimp only;omega,λhb=>by dsimp only at hb|-;rw[Gm];exact sh (q1 rfl) (by simp;omega) (y2 rfl hb),λhb=>oI (q1 rfl) (m':=m-ks.length-1) Om (y3 rfl hb)⟩) (by dsimp only;rw[Gm];simp;omega) (eC rfl (eC rfl (eC rfl (eC rfl (eC rfl (Env.le_cons (KF rfl (GM some (by first|rfl|(exact GM (Value.int .i64) Si)))) eN)))))) rfl Qw
 (try simp[dx]at hc90);obtain rfl:badj=true:=by simpa using hc90
 refine QG (k33 (cS λ_ k39=>Qc ?_));refine YC (e:=150) (sz:=4) (n:=ks.length) (v:=v) (xs:=css.flatten) Qm (λR2 hR2 hfr hxl=>?_);have hkb:ks.length<=big:=by unfold big;omega
 obtain⟨q,cap,rfl,hrl⟩:=(hk.mono hR2).repL hfr hkb;refine Pa (Lb QF) ?_;refine Qr QF rfl Qo rfl rfl (by(first|(simp[Value.oneCell'];done)|(intro u hu;simp[Gn,Gs,G7]at hu;rcases hu with rfl|rfl|rfl|rfl<;>first|rfl|assumption))) Qm (by(simp)) rfl ?_;refine Qd (k39 (Qg (r_ ?_)));refine Ea JY (.cons (QP QF) .nil) [rB b sj true] (by first|exact Hp.le_refl _|exact Hp.le_trans hr1 hR2) ?_;exact⟨.mk 2 0 [] ks,_,_,true,rfl,hrl.node (by simp[big]),rfl,by simp at hs2|-;omega,λ_=>rfl,λ_ h=>(by cases h),λ_ _=>by rw[hrd,q2 rfl]⟩;try simp[dx]at hg84
 refine Pk (Pk (Pk (Pk (Pk ?_))));refine Pa Qn (Qd (k36 (Qt rfl (QG (k33 (cS λ_ k40=>Qc ?_))))));refine YC (e:=150) (sz:=4) (n:=ks.length) (v:=v) (xs:=css.flatten) Qm (λR2 hR2 hfr hxl=>?_);have hkb:ks.length<=big:=by unfold big;omega
 obtain⟨q,cap,rfl,hrl⟩:=(hk.mono hR2).repL hfr hkb;refine Pa (Lb QF) ?_;refine Qr QF rfl Qo rfl rfl (by(first|(simp[Value.oneCell'];done)|(intro u hu;simp[Gn,Gs,G7]at hu;rcases hu with rfl|rfl|rfl|rfl<;>first|rfl|assumption))) Qm (by(simp)) rfl ?_;refine Qd (k40 (Qg (r_ ?_)));refine Ea JY (.cons (QP QF) .nil) [rB b sj badj] (by first|exact Hp.le_refl _|exact Hp.le_trans hr1 hR2) ?_;refine⟨.mk 2 0 [] ks,_,_,badj,rfl,hrl.node (by simp[big]),rfl,by simp at hs2|-;omega,λh=>(by cases h),λ_ h=>?_,λ_ h=>by rw[hrd,q2 h]⟩;rw[hrd,q1 h,show m-ks.length=0 by omega];simp[yO];try simp[dx]at hc77
 refine Qh ?_;refine Jn hJ27 ((s2,false)) (⟨by dsimp only;omega,λ_=>by rw[Yy,hz];(try simp at hc27 hc70 hc77);simp[hc27,hc70,hc77]⟩)
def B4(d:Nat):kW d:=by
 induction d with
 |zero=>exact t5
 |succ e ih=>exact t6 e ih
def qK(s:List UInt8):Nd×Bool:=if s.length>16777216 then(yk,false)else match Yy 20 s with
 |some (x,[])=>(x,true)
 |_=>(yk,false)
def eJ{s:List UInt8}(h:¬s.length>16777216->Yy 20 s=none):qK s=(yk,false):=by
 unfold qK;by_cases hl:s.length>16777216;.rw[an hl]
 rw[ac hl,h hl]
def km{s:List UInt8}(h:¬s.length>16777216->Yy 20 s=some (y,s'))(hne:¬s'=[]):qK s=(yk,false):=by
 unfold qK;by_cases hl:s.length>16777216;.rw[an hl]
 rw[ac hl,h hl];cases s' with
 |nil=>exact Gr rfl hne
 |cons u t=>rfl
def eI{s:List UInt8}(hl:¬s.length>16777216)(h:Yy 20 s=some (y,[])):qK s=(y,true):=by
 unfold qK;rw[ac hl,h]
def D0(s:List UInt8)(hs:s.length<=big):Tri prog 82 [.string (Qs s)] R []
  (λr R' L'=>∃cy,r=.tuple #[.agg ⟨cy⟩,.bool (qK s).2]/\RepN R' (qK s).1 cy/\L'=[]):=by
 have hbg:s.length<=1000000000000:=hs;refine To func82 ntmps82 λ_ F _ r_ _ _=>?_;try simp[cB]
 refine XN λK1 hK1=>Qc (QC Qo rfl GK rfl (λb2=>Ps (Qd (hK1 _ _ _ (cS λ_ k2=>Qc (Pm (Pm (Pa (YP GZ) (Pa XG (Pa (Xh (cells:=[_,_]) [(0,1),(1,1)] HT zeroValue174 (λ_=>rfl) rfl rfl) (Xc Qo rfl rfl rfl (λbr=>Ps (Qd (k2 (cS λ_ k3=>Qc (Pm (Ra call103 (B4 20 br s (decide ((s.length:Int)>16777216)) Dc hs) ?_)))))))))))))))));rintro r R' L' hR ⟨y,cy,s',bad',rfl,hy,rfl,hs',y1,y2,y3⟩;obtain⟨k1,n1,st1,l1,qq1,cap1,rfl,rfl,hb1,hl1⟩:=hy.inv;try simp[cB]
 refine QC Qo rfl GK rfl (λb5=>Qr QF rfl Qo rfl rfl (by(first|(simp[Value.oneCell'];done)|(intro u hu;simp[Gn,Gs,G7]at hu;rcases hu with rfl|rfl|rfl|rfl<;>first|rfl|assumption))) Qm (by(simp)) rfl ?_);refine Qd (k3 (cS λ_ k4=>cS λ_ k5=>Qc (Pm (Pa Qe (Pa (Ga HT Il) ?_)))));refine Pa (La o4) (Pm (QM 18 rfl (λhg18=>?_) (λhg18=>?_)))
 (try simp[dx]at hg18);obtain rfl:bad'=true:=by simpa using hg18
 refine Pk (Pk (Pk (Pk (Pk (Pa Qq (Qd (k5 (cE [2,5,24] (QD rfl (cS λ_ k6=>Qc (Pa (Xh (cells:=[_,_,_,_]) [(0,1),(1,1),(2,1),(3,1)] Gq GK (λ_=>rfl)) ?_)))))))))));refine Qr QF rfl Qo rfl rfl (by(first|(simp[Value.oneCell'];done)|(intro u hu;simp[Gn,Gs,G7]at hu;rcases hu with rfl|rfl|rfl|rfl<;>first|rfl|assumption))) Qm (by(simp)) rfl ?_;refine Ps (Qd (k6 (Qg (r_ (Ea results82 (.cons (QP QF) (.cons QH .nil)) [] QB ?_)))));rw[eJ (λhl=>y3 (decide_eq_false Om) rfl)];exact⟨_,rfl,yS R',rfl⟩
 (try simp[dx]at hg18);obtain rfl:bad'=false:=by simpa using hg18
 refine Pb Qf (Pb Qe (Pb (Ga HT Ic) (Pb (La o9) (Pb (fA rfl rfl) (Pa Qn (Qd (k5 (Qi rfl (λhc24=>?_) (λhc24=>?_)))))))))
 (try simp[dx]at hc24);have hne:¬s'=[]:=by simpa using hc24
 refine cS λ_ k8=>Qc (Pa (Xh (cells:=[_,_,_,_]) [(0,1),(1,1),(2,1),(3,1)] Gq GK (λ_=>rfl)) (Qr QF rfl Qo rfl rfl (by(first|(simp[Value.oneCell'];done)|(intro u hu;simp[Gn,Gs,G7]at hu;rcases hu with rfl|rfl|rfl|rfl<;>first|rfl|assumption))) Qm (by(simp)) rfl ?_));refine Ps (Qd (k8 (Qg (r_ (Ea results82 (.cons (QP QF) (.cons QH .nil)) [] QB ?_)))));rw[km (λhl=>y2 (decide_eq_false Om) rfl) hne];exact⟨_,rfl,yS R',rfl⟩
 (try simp[dx]at hc24);have hne:s'=[]:=by simpa using hc24
 refine Qh (k4 (cS λ_ k9=>Qc (Pa (Lb QF) (Qr QF rfl Qo rfl rfl (by(first|(simp[Value.oneCell'];done)|(intro u hu;simp[Gn,Gs,G7]at hu;rcases hu with rfl|rfl|rfl|rfl<;>first|rfl|assumption))) Qm (by(simp)) rfl ?_))));refine Ps (Qd (k9 (Qg (r_ (Ea results82 (.cons (QP QF) (.cons QH .nil)) [] QB ?_)))));subst hne;rw[eI (by by_cases hl:(s.length:Int)>16777216;have:=y1 (IS hl);cases this;omega) (by by_cases hl:(s.length:Int)>16777216;have:=y1 (IS hl);cases this;exact y2 (decide_eq_false hl) rfl)];exact⟨_,rfl,hy,rfl⟩
def C2(v:Value)(n:Nat)(xs:List Value)(h1:∀u∈xs,u.oneCell'=true)(hn:n<=1000000):Tri prog 123 [v] R [QN 150 4 v n xs]
  (λr R' L'=>R=R'/\L'=[QN 150 4 r n xs]):=by
 refine To func123 ntmps123 λ_ F _ r_ _ _=>?_;try simp[cB]
 refine qh (A:=QN 150 4 v n xs) Qm ZF (λhsh=>?_);obtain⟨q,k,rfl,hk,_,hqq⟩:=hsh;have hq0:q.isNone=true->n=0:=λh=>by rcases Js n with h0|h0;exact h0;obtain⟨b,off,rfl⟩:=hqq h0;cases h
 refine cS λ_ k1=>Qc (Ps (Qd (k1 (cS λ_ k2=>cS λ_ k3=>Qc (Pm (Pa (gG Gy rfl rfl) (Qd (k3 (Qi rfl (λhc4=>?_) (λhc4=>?_))))))))));have h0:=hq0 hc4;subst h0;refine qh (A:=QN 150 4 (.slice q 0 k) 0 xs) Qm BY (λhxl=>?_);obtain rfl:xs=[]:=by simpa using hxl
 exact pZ (A:=QN 150 4 (.slice none 0 0) 0 []) (Yr _ _) (cS λ_ k5=>Qc (Ps (Qd (k5 (Qg (r_ (Es MN [QN 150 4 (.slice none 0 0) 0 []] ⟨rfl,rfl⟩)))))));try simp[dx]at hc4
 refine Qh (k2 (cS λ_ k6=>Qc (Qv (sz:=4) Qo rfl Gy HB GK rfl rfl rfl Dc Dc (λb5=>Pm (QZ (sz:=4) (by_:=56) ⟨Gy,_,_,rfl,rfl,rfl,rfl,rfl⟩ Qo rfl rfl rfl Qm (XL Gy Qm h1) rfl Qu (by simp[maxLen];omega) (λv7 ho7 hh7=>?_))))));rw[H4,Hr];exact Ps (Qd (k6 (Qg (r_ (Es MN [QN 150 4 v7 n xs] ⟨rfl,rfl⟩)))))
def A4(v:Value)(ks:List Nd)(css:List (List Value))(hk:Kids R ks css)(hn:ks.length<=1000000):Tri prog 119 [v] R [QN 150 4 v ks.length css.flatten]
  (λr R' L'=>(∃cy,r=.agg ⟨cy⟩/\RepN R' (.mk 2 0 [] ks) cy)/\L'=[]):=by
 have h1:∀u∈css.flatten,u.oneCell'=true:=λu hu=>by
  obtain⟨c,hc,hu⟩:=Lq.1 hu;obtain⟨i,hi,rfl⟩:=Ij hc;exact yI (hk.2 i (ks[i]'(by rw[<-hk.1];exact hi)) _ Si (by simp[hi])) u hu
 refine To func119 ntmps119 λ_ F _ r_ _ _=>?_;try simp[cB]
 refine cS λ_ k1=>Qc (QC Qo rfl GK rfl (λb2=>Qd (k1 (cS λ_ k2=>Qc (Pm (Ra call123 (C2 v ks.length css.flatten h1 hn) ?_))))));rintro r R' L' hR ⟨rfl,rfl⟩;refine gP (A:=QN 150 4 r ks.length css.flatten) Qm zl (λhro=>YC (e:=150) (sz:=4) (n:=ks.length) (v:=r) (xs:=css.flatten) Qm (λR2 hR2 hfr hxl=>?_));have hkb:ks.length<=big:=by unfold big;omega
 obtain⟨q,cap,rfl,hrl⟩:=(hk.mono hR2).repL hfr hkb;try simp[cB]
 refine Pa (Xh (cells:=[_,_,_,_]) [(0,1),(1,1),(2,1),(3,1)] Gq GK (λ_=>rfl)) (Qr QF rfl Qo rfl rfl (by(first|(simp[Value.oneCell'];done)|(intro u hu;simp[Gn,Gs,G7]at hu;rcases hu with rfl|rfl|rfl|rfl<;>first|rfl|assumption))) Qm (by(simp)) rfl ?_);refine Qd (k2 (Qg (r_ (Ea results119 (.cons (QP QF) .nil) [] QB ?_))));exact⟨⟨_,rfl,hrl.node (by simp[big])⟩,rfl⟩
def oH(hok:OkN x)(hr:Xu 20 x=true)(hl:(wr x).length<=16777216):qK (wr x)=(x,true):=
 eI Om (by have:=Fg 20 x [] hok hr Om;simpa using this)
abbrev Bs:=List UInt8
structure LG where
 term:Int
 vote:Int
 base:Int
 baseT:Int
 state:Bs
 all:List Qy
 down:Bool
variable{g h:LG}
def LG.new:LG:=⟨0,-1,0,0,[],[],false⟩
def LG.last(g:LG):Int:=g.base+g.all.length
def LG.at(g:LG)(i:Int):Option Qy:=if g.base<i/\i<=g.last then g.all[(i-g.base-1).toNat]? else none
def LG.termAt(g:LG)(i:Int):Option Int:=if i=g.base then some g.baseT else(g.at i).map (·.1)
structure LG.ok (g:LG):Prop where
 term:QQ g.term
 vote: -1<=g.vote/\g.vote<9223372036854775807
 base:0<=g.base/\g.base<=1000000000000000
 baseT:QQ g.baseT
 state:g.state.length<=1000000
 alln:g.all.length<=100000
 all:∀e∈g.all,QQ e.1/\e.2.length<=1000000
def LG.new_ok:LG.new.ok:=⟨by unfold QQ;decide,Dc,Dc,by unfold QQ;decide,Dc,Dc,λe he=>by cases he⟩
def YI(n:Nat):Nd:=.mk 0 n [] []
def qo(s:Bs):Nd:=.mk 1 0 s []
def qx(e:Qy):Nd:=.mk 2 0 [] [YI e.1.toNat,qo e.2]
def qv(l:List Qy):Nd:=.mk 2 0 [] (l.map qx)
inductive Rec
 |term (t:Int) (v:Int)
 |add (behind:Int) (m:List Qy)
 |all (g:LG)
variable{r:Rec}
def Rec.kids:Rec->List Nd
 | .term t v=>[YI 0,YI t.toNat,YI (v+1).toNat]
 | .add b m=>[YI 1,YI b.toNat,qv m]
 | .all g=>[YI 2,YI g.term.toNat,YI (g.vote+1).toNat,YI g.base.toNat,YI g.baseT.toNat,qo g.state,qv g.all]
def Rec.nd(r:Rec):Nd:=.mk 2 0 [] r.kids
def cG(n:Nat):Bs:=[UInt8.ofNat (n/16777216%256),UInt8.ofNat (n/65536%256),UInt8.ofNat (n/256%256),UInt8.ofNat (n%256)]
def Rec.bytes(r:Rec):Bs:=cG (wr r.nd).length++wr r.nd
def Xr(l:List Rec):Bs:=(l.map Rec.bytes).flatten
def Rec.may(g:LG):Rec->Prop
 | .term t v=>QQ t/\ -1<=v/\v<9223372036854775807
 | .add b m=>(g.base<=b/\b<=g.last)/\(∀e∈m,QQ e.1/\e.2.length<=1000000)/\m.length<=100000
 | .all h=>h.ok
def LG.play(g:LG):Rec->LG
 | .term t v=>{g with term:=t,vote:=v}
 | .add b m=>{g with all:=g.all.take (b-g.base).toNat++m}
 | .all h=>{h with down:=g.down}
inductive Plays:LG->List Rec->LG->Prop
 |nil (g:LG):g.ok->Plays g [] g
 |cons {g h:LG} {r:Rec} {l:List Rec}:g.ok->r.may g->(wr r.nd).length<=16777216->Plays (g.play r) l h->Plays g (r::l) h
def Plays.okR{l:List Rec}(p:Plays g l h):h.ok:=by
 induction p with
 |nil g h=>exact h
 |cons _ _ _ _ ih=>exact ih
def Plays.snoc{l:List Rec}(p:Plays g l h)(hm:r.may h)(hl:(wr r.nd).length<=16777216)(ho:(h.play r).ok):Plays g (l++[r]) (h.play r):=by
 induction p with
 |nil g hg=>exact .cons hg hm hl (.nil _ ho)
 |cons h1 h2 h3 _ ih=>exact .cons h1 h2 h3 (ih hm ho)
def eH(l:List Rec)(r:Rec):Xr (l++[r])=Xr l++r.bytes:=by simp[Xr]
def Zh(n:Nat):(cG n).length=4:=rfl
def jK(l:Bs):Nat:=(l.getD 0 0).toNat*16777216+(l.getD 1 0).toNat*65536+(l.getD 2 0).toNat*256+(l.getD 3 0).toNat
def g8{n:Nat}(h:n<4294967296)(r:Bs):jK (cG n++r)=n:=by
 unfold jK cG;simp;omega
def yr(t:Bs):Prop:=t.length<4\/t.length-4<jK t
def eu:yr []:=.inl Dc
def xp(hl:(wr r.nd).length<=16777216){k:Nat}(hk:k<r.bytes.length):yr (r.bytes.take k):=by
 unfold Rec.bytes at hk|-;simp[Gm,Zh]at hk;by_cases h4:k<4;.left;simp;omega
 right;have e:(cG (wr r.nd).length++wr r.nd).take k=cG (wr r.nd).length++(wr r.nd).take (k-4):=by
  rw[Lo,Zh,Gx (by rw[Zh];omega)]
 rw[e,g8 Om];simp[Gm,Zh,GX];omega
def CY(h:QQ e.1):OkN (qx e):=.mk Dc (λx hx=>by
 simp[Gn,Gs,G7]at hx;unfold QQ at h;rcases hx with rfl|rfl
 .exact .mk Om (λy hy=>by cases hy)
 exact .mk Dc (λy hy=>by cases hy))
def yJ{n:Nat}(h:n<18446744073709551616):OkN (YI n):=.mk h (λy hy=>by cases hy)
def r7(s:Bs):OkN (qo s):=.mk Dc (λy hy=>by cases hy)
def pd{l:List Qy}(h:∀e∈l,QQ e.1):OkN (qv l):=.mk Dc (λx hx=>by
 obtain⟨e,he,rfl⟩:=Gu.1 hx;exact CY (h e he))
def qO{n:Int}(h:QQ n):n.toNat<18446744073709551616/\((n.toNat:Nat):Int)=n:=by unfold QQ at h;omega
def Rec.kids_ok(h:r.may g)(hg:g.ok):∀x∈r.kids,OkN x:=by
 intro x hx;cases r with
 |term t v=>
  let⟨h1,h2,h3⟩:=h;simp[Rec.kids,Gn,Gs,G7]at hx;rcases hx with rfl|rfl|rfl
  .exact yJ Dc
  .exact yJ (qO h1).1
  exact yJ Om
 |add b m=>
  let⟨⟨h1,h2⟩,h3,h4⟩:=h;have hb:=hg.base;have hn:=hg.alln;simp[Rec.kids,Gn,Gs,G7]at hx;rcases hx with rfl|rfl|rfl
  .exact yJ Dc
  .exact yJ (by unfold LG.last at h2;omega)
  exact pd (λe he=>(h3 e he).1)
 |all k=>
  have h:k.ok:=h;have hb:=h.base;have hv:=h.vote;simp[Rec.kids,Gn,Gs,G7]at hx;rcases hx with rfl|rfl|rfl|rfl|rfl|rfl|rfl
  .exact yJ Dc
  .exact yJ (qO h.term).1
  .exact yJ Om
  .exact yJ Om
  .exact yJ (qO h.baseT).1
  .exact r7 _
  exact pd (λe he=>(h.all e he).1)
def Rec.okN(h:r.may g)(hg:g.ok):OkN r.nd:=.mk Dc (Rec.kids_ok h hg)
def mv(d n:Nat):Xu (d+1) (YI n)=true:=by simp[Xu,YI]
def mu(d:Nat)(s:Bs):Xu (d+1) (qo s)=true:=by simp[Xu,qo]
def vN(d:Nat)(e:Qy):Xu (d+2) (qx e)=true:=by
 have h1:=mv d e.1.toNat;have h2:=mu d e.2;rw[qx,Xu];simp[h1,h2]
def t8(d:Nat)(l:List Qy):Xu (d+3) (qv l)=true:=by
 rw[qv,Xu];simp[vN]
def Rec.right(r:Rec):Xu 20 r.nd=true:=by
 have h1:=mv 18;have h2:=mu 18;have h3:=t8 16;cases r<;>(rw[Rec.nd,Xu];simp[Rec.kids,h1,h2,h3])
def Rec.write(r:Rec)(hl:(wr r.nd).length<=16777216):YQ r.nd=(wr r.nd,true):=by
 unfold YQ;rw[an ⟨r.right,hl⟩]
def Rec.read(h:r.may g)(hg:g.ok)(hl:(wr r.nd).length<=16777216):qK (wr r.nd)=(r.nd,true):=oH (Rec.okN h hg) r.right hl
def Cf(n:Nat)(h:n<18446744073709551616):(XF n).length<=8:=zJ 8 n (by simpa using h)
def eB(n:Nat)(h:n<=1000000):(XO n).length<=3:=ZU 2 n (by simp;omega)
def yU{n:Nat}(h:n<18446744073709551616):(wr (YI n)).length<=12:=by
 have h1:=Cf n h;have h2:=eB (XF n).length Om;simp[wr,YI];omega
def nL{s:Bs}(h:s.length<=1000000):(wr (qo s)).length<=4+s.length:=by
 have h2:=eB s.length h;simp[wr,qo];omega
def Dk(h:QQ e.1)(hs:e.2.length<=1000000):(wr (qx e)).length<=20+e.2.length:=by
 have h1:=yU (qO h).1;have h2:=nL hs;have h3:=eB 2 Dc;have e3:(XO 2).length=1:=by rw[YW Dc];rfl
 rw[qx,wr,ac Dc,ac Dc,YZ,YZ,YZ];simp[e3];omega
def Yc(l:List Qy):Nat:=(l.map λe=>20+e.2.length).sum
def nK:∀{l:List Qy},(∀e∈l,QQ e.1/\e.2.length<=1000000)->(YZ (l.map qx)).length<=Yc l
 |[],_=>by simp[YZ,Yc]
 |e::l,h=>by
  have h1:=Dk (h e Si).1 (h e Si).2;have h2:=nK (l:=l) (λe he=>h e (by simp[he]));simp[YZ,Yc]at h2|-;omega
def rQ{l:List Qy}(h:∀e∈l,QQ e.1/\e.2.length<=1000000)(hl:l.length<=1000000):(wr (qv l)).length<=4+Yc l:=by
 have h1:=nK h;have h2:=eB l.length hl;rw[qv,wr,ac Dc,ac Dc];simp;omega
def Rec.len_term{t v:Int}(h:QQ t)(hv: -1<=v/\v<9223372036854775807):(wr (Rec.term t v).nd).length<=40:=by
 have h1:=yU (n:=0) Dc;have h2:=yU (qO h).1;have h3:=yU (n:=(v+1).toNat) Om;have e3:(XO 3).length=1:=by rw[YW Dc];rfl
 rw[Rec.nd,wr,ac Dc,ac Dc];simp[Rec.kids,YZ,e3];omega
def Rec.len_add{b:Int}{m:List Qy}(hb:0<=b/\b<=10000000000000000)(h:∀e∈m,QQ e.1/\e.2.length<=1000000)(hm:m.length<=100000):(wr (Rec.add b m).nd).length<=40+Yc m:=by
 have h1:=yU (n:=1) Dc;have h2:=yU (n:=b.toNat) Om;have h3:=rQ h Om;have e3:(XO 3).length=1:=by rw[YW Dc];rfl
 rw[Rec.nd,wr,ac Dc,ac Dc];simp[Rec.kids,YZ,e3];omega
def Rec.len_all(h:g.ok):(wr (Rec.all g).nd).length<=100+g.state.length+Yc g.all:=by
 have hb:=h.base;have hv:=h.vote;have h0:=yU (n:=2) Dc;have h1:=yU (qO h.term).1;have h2:=yU (n:=(g.vote+1).toNat) Om;have h3:=yU (n:=g.base.toNat) Om;have h4:=yU (qO h.baseT).1;have h5:=nL h.state;have h6:=rQ h.all (by have:=h.alln;omega);have e3:(XO 7).length=1:=by rw[YW Dc];rfl
 rw[Rec.nd,wr,ac Dc,ac Dc];simp[Rec.kids,YZ,e3];omega
section
variable{en:Int->PanicEntry}{P:Program}{f:FuncId}{args:List Value}{R:Hp}{L:List Qj}{res:Except Int Value}{v:Value}
end
section
variable{en:Int->PanicEntry}{c:Cx}{ops:Array Oper}{Q:Exit->Act->World->Prop}{E:Env}{R:Hp}{L:List Qj}{rest:List Oper}{ty:TypeId}{p:String}{af:Array Edge}{g:Option (Nat×Bool)}
def xD{x:Operand}{t:TypeId}{u:Value}(hw:Wn c ops E ⟨none,.panic x,ty,p,af,g⟩ true)(e1:ev E x=some (.iface t u))
  (h:EJ c (Q (.panic [⟨.iface t u,false,false⟩])) E R L):RJ c ops Q (⟨none,.panic x,ty,p,af,g⟩::rest) E R L:=by
 intro a w hf hs;unfold wpList;rw[an (hw a hf)];refine .inl ?_;have r:(execOp a.eval ⟨none,.panic x,ty,p,af,g⟩).run c.P w=.halt (.panic (.iface t u)) w:=by
  simp[execOp,hf.ev e1,Instr.panic,goPanic]
 unfold Oper.wp;rw[r];exact h a w hf hs
def kb{d:Option Tmp}{x:Operand}{t:TypeId}{fs:Array Field}{u:Value}(hT:c.P.underlying t=some (.struct fs))(e1:ev E x=some u):Yld c E R L ⟨d,.makeInterface t x,ty,p,af,g⟩ (.iface t u):=λa w hf hs=>by
 have r:(Instr.makeInterface t u).run c.P w=.ok (.iface t u) w:=by
  unfold Instr.makeInterface;simp[run_underlying hT]
 simp[execOp,hf.ev e1,r,Oper.quietUpon]
end
def under(D:List Deferred)(a:Act):Act:={a with defers:=a.defers++D}
def jf(D:List Deferred)(a:Act)(d:Option Tmp)(v:Value):(under D a).put d v=under D (a.put d v):=by cases d<;>rfl
def tI{D:List Deferred}{o:Oper}{K K':Act->World->Prop}{Q Q':Exit->Act->World->Prop}{r:Result Next}
  (hK:∀a w,K a w->K' (under D a) w) (hQ:∀e a w,Q e a w->Q' e (under D a) w) (h:o.upon P a K Q r):o.upon P (under D a) K' Q' r:=by
 unfold Oper.upon at*;split<;>simp_all;.rw[jf];exact hK _ _ h
 .rw[jf];exact hK _ _ h
 .rename_i d w';have e:({tmps:=(under D a).tmps,defers:=d::(under D a).defers}:Act)=under D {tmps:=a.tmps,defers:=d::a.defers}:=rfl;rw[e,jf];exact hK _ _ h
 .refine LL h λe w' he=>?_;cases e with
  |returned v=>show K' _ _;rw[jf];exact hK _ _ he
  |panicked ch=>exact hQ _ _ _ he
  |outgrown=>obtain⟨a1,w1,h1⟩:=he;exact⟨_,_,hQ _ _ _ h1⟩
 exact Rows.mono h λv w' h=>by rw[jf];exact hK _ _ h
def jm{P:Program}{D:List Deferred}{ops:Array Oper}{Q Q':Exit->Act->World->Prop}(hQ:∀e a w,Q e a w->Q' e (under D a) w):∀(l:List Oper) (a:Act) (w:World),
  wpList P ops Q l a w->wpList P ops Q' l (under D a) w
 |[],a,w,h=>hQ _ _ _ h
 |o::l,a,w,h=>by
  unfold wpList at h|-
  have ht:(under D a).tmps=a.tmps:=rfl
  rw[ht]
  split
  .rename_i hw
   rw[an hw]at h
   rcases h with h|⟨h1,a1,w1,h2⟩
   .exact .inl (tI (λa w h=>jm hQ l a w h) hQ h)
   .exact .inr ⟨h1,_,_,hQ _ _ _ h2⟩
  .rename_i hw
   rw[ac hw]at h
   rw[jf];exact jm hQ l _ w h
def j7(σ:World)(R0:Hp)(F:List Qj)(post:Value->Hp->List Qj->Prop)(pan:List PanicEntry->Hp->List Qj->Prop):Ending->World->Prop:=
 λe w'=>∃R' L',R0.le R'/\Sat σ R' (L'++F) w'/\
  match e with
  | .returned v=>post v R' L'
  | .panicked ch=>pan ch R' L'
  | .outgrown=>False
def uS(P:Program)(fn:Func)(σ:World)(R0:Hp)(F:List Qj)(post:Value->Hp->List Qj->Prop)(pan:List PanicEntry->Hp->List Qj->Prop):Exit->Act->World->Prop:=
 bodyPostD P fn (j7 σ R0 F post pan)
def pN{RR:Ending->World->Prop}{e:Exit}(h:bodyPost P fn RR e a w):bodyPostD P fn RR e a w:=by
 cases e with
 |normal=>obtain⟨h1,v,h2,h3⟩:=h;show Leaves _ _ _ _ a.defers _ _;rw[h1];exact⟨v,h2,h3⟩
 |ret=>obtain⟨h1,v,h2,h3⟩:=h;show Leaves _ _ _ _ a.defers _ _;rw[h1];exact⟨v,h2,h3⟩
 |panic ch=>obtain⟨h1,h2⟩:=h;show Leaves _ _ _ _ a.defers _ _;rw[h1];exact h2
 |outgrown=>exact h
 |exit id=>exact h
 |goto l=>exact h
def nP{f n:Nat}{body:Code}{args:List Value}{L:List Qj}{post:Value->Hp->List Qj->Prop}{pan:List PanicEntry->Hp->List Qj->Prop}
  (hf:P.funcs[f]?=some fn) (hb:fn.body=some body) (hn:fn.ntmps=n) (ha:Nat.ble args.length n=true)
  (h:∀σ F (Q:Exit->Act->World->Prop),(∀E R1 L1,EJ ⟨P,n,σ⟩ (zy P fn σ R F post pan .ret) E R1 L1->EJ ⟨P,n,σ⟩ (Q .ret) E R1 L1)->(∀E R1 L1,EJ ⟨P,n,σ⟩ (zy P fn σ R F post pan .normal) E R1 L1->EJ ⟨P,n,σ⟩ (Q .normal) E R1 L1)->
   (∀ch E R1 L1,EJ ⟨P,n,σ⟩ (zy P fn σ R F post pan (.panic ch)) E R1 L1->EJ ⟨P,n,σ⟩ (Q (.panic ch)) E R1 L1)->(∀e a w,uS P fn σ R F post pan e a w->Q e a w)->CJ ⟨P,n,σ⟩ body Q (fa 0 args) R (L++F)):Tri P f args R L post pan:=
 λσ F w hs=>calls_of_wp_defers hf hb (by rw[hn];exact h σ F (uS P fn σ R F post pan) (λ_ _ _ k a w hf hs=>pN (k a w hf hs)) (λ_ _ _ k a w hf hs=>pN (k a w hf hs)) (λ_ _ _ _ k a w hf hs=>pN (k a w hf hs)) (λ_ _ _ k=>k) _ w (Fr.start ha) hs)
def kg(P:Program)(fn:Func)(RR:Ending->World->Prop)(d:Deferred):Exit->Act->World->Prop
 | .normal,a,w=>a.defers=[]/\Leaves P fn a.tmps RR [d] .returning w
 | .panic ch,a,w=>a.defers=[]/\Leaves P fn a.tmps RR [d] (.panicking ch) w
 |_,_,_=>False
def kz{c:Cx}{R0:Hp}{L F:List Qj}{post:Value->Hp->List Qj->Prop}{pan:List PanicEntry->Hp->List Qj->Prop}{rs:List ResultVar}{vs:List Value}
  (hr:fn.results=⟨rs⟩) (hv:RVs c E R L rs vs) (R':Hp) (L':List Qj) (hR:R0.le R') (hRR:R'=R) (hS:Sub L (L'++F)) (hp:post (QI vs) R' L') (hf:Fr c.n E a) (hs:Sat c.σ R L w):
  Leaves c.P fn a.tmps (j7 c.σ R0 F post pan) [] .returning w:=by
 have:=qs (c:=c) (pan:=pan) hr hv R' L' hR hRR hS hp a w hf hs;let⟨_,v,h1,h2⟩:=this;exact⟨v,h1,h2⟩
def aN(cs:List Frame):Value×List Frame:=match recoverD cs with
 |some (v,cs')=>(v,cs')
 |none=>(.nilIface,cs)
def rR{Q:Exit->Act->List Frame->World->Prop}{cs cs':List Frame}{d1 d2 n:Nat}{ty1 ty2:TypeId}{p1 p2:String}{af1 af2:Array Edge}{rest:Code}
  (hf:Fr n E a) (hd1:Nat.blt d1 n=true) (hd2:Nat.blt d2 n=true) (hr:aN cs=(v,cs')) (h:∀a',Fr n ((d2,v)::(d1,v)::E) a'->rest.wpS P Q a' cs' w):
  (Code.seq (.region i #[⟨some d1,.call {callee:=.builtin .recover,args:= #[],argTypes:= #[]},ty1,p1,af1,none⟩,⟨some d2,.assign (.tmp d1),ty2,p2,af2,none⟩] false) rest).wpS P Q a cs w:=by
 obtain⟨o1,ho1⟩:∃o:Oper,o=⟨some d1,.call {callee:=.builtin .recover,args:= #[],argTypes:= #[]},ty1,p1,af1,none⟩:=⟨_,rfl⟩;obtain⟨o2,ho2⟩:∃o:Oper,o=⟨some d2,.assign (.tmp d1),ty2,p2,af2,none⟩:=⟨_,rfl⟩;rw[<-ho1,<-ho2];have g1:o1.guard=none:=by rw[ho1]
 have g2:o2.guard=none:=by rw[ho2]
 have k1:o1.dst=some d1:=by rw[ho1]
 have k2:o2.dst=some d2:=by rw[ho2]
 have r1:∀(a:Act) w,(execOp a.eval o1).run P w=.ok .recover w:=λa w=>by rw[ho1];simp[execOp,resolve,invoke,builtin]
 refine wpS_seq (wpS_region ?_);show wpOpsS P #[o1,o2] _ [0,1] a cs w;unfold wpOpsS;rw[show(#[o1,o2])[0]?=some o1 from rfl];simp only;rw[an (by simp[Region.wanted,g1]),r1];simp only;have key:∀cs',aN cs=(v,cs')->∀a',Fr n ((d1,v)::E) a'->(∀a'',Fr n ((d2,v)::(d1,v)::E) a''->rest.wpS P Q a'' cs' w)->wpOpsS P #[o1,o2] (Exit.thenS (rest.wpS P Q) Q) [1] a' cs' w:=by
  intro cs' _ a' hf' h;unfold wpOpsS;rw[show(#[o1,o2])[1]?=some o2 from rfl];simp only;have r2:(execOp a'.eval o2).run P w=.ok (.value v) w:=by
   rw[ho2];simp[execOp,hf'.ev (x:=.tmp d1) (v:=v) (by simp[ev,lk])]
  rw[an (by simp[Region.wanted,g2]),r2];simp[Oper.upon];unfold wpOpsS;refine h _ ?_;rw[k2];exact hf'.put hd2 v
 unfold aN at hr;rw[k1];split at hr;.rename_i v1 cs1 hr1;cases hr;rw[hr1];exact key _ (by unfold aN;rw[hr1]) _ (hf.put hd1 v) h
 rename_i hr1;cases hr;rw[hr1];exact key _ (by unfold aN;rw[hr1]) _ (hf.put hd1 _) h
def iH(ops:Array Oper)(fl:List Nat):Option Nat->List Nat->Bool
 |_,[]=>true
 |r,i::l=>(match r with|none=>true|some k=>ZH ops ops.size i k)&&
   (l.all λj=> !(fl.contains i||fl.contains j)||(!Ym ops i j&& !qc ops i j&& !qc ops j i&&(!Ym ops j i||ZH ops ops.size j i)))&&
   iH ops fl (if fl.contains i then r else some i) l
def DN(ops:Array Oper)(fl l:List Nat):Bool:=
 iS ops&&((List.range ops.size).all λi=>l.contains i)&&l.Nodup&&(l.all λi=>Nat.blt i ops.size&&zU ops i)&&(fl.all λi=> !Ym ops i i)&&iH ops fl none l
section
variable{c:Cx}{ops:Array Oper}{Q:Exit->Act->World->Prop}{R:Hp}{L:List Qj}
def QK.mono{x:Nat×Value}{R':Hp}(hR:R.le R')(q:QK c ops R L x a):QK c ops R' L x a:=by
 let⟨o,ho,hs,hq⟩:=q;exact⟨o,ho,hs,λR2 hR2 G w hw=>hq R2 (Hp.le_trans hR hR2) G w hw⟩
def QK.spec{E':Env}(hs:zU ops i=true)(h:nG c ops R L i E v E')(hf:Fr c.n E a):QK c ops R L (i,v) a/\Fr c.n E' (a.put (XZ ops i) v):=by
 obtain⟨o,d,ho,hd,hn,rfl,hspec⟩:=h;have hda:XZ ops i=some d:=by simp[XZ,ho,hd]
 refine⟨⟨o,ho,zo ho hs,λR' hR G w hw=>?_⟩,by rw[hda];exact hf.put hn v⟩;rcases hspec with⟨hw1,hy⟩|⟨hw1,hy⟩
 .exact .inl ⟨hw1 a hf,hy R' hR G a w hf hw⟩
 exact .inr ⟨hw1 a hf,hy⟩
def Bk(ops:Array Oper)(i j:Nat):Prop:=Ym ops i j=false/\qc ops i j=false/\qc ops j i=false/\(Ym ops j i=false\/ZH ops ops.size j i=true)
def fR{fl:List Nat}{r:Option Nat}{l:List Nat}(h:iH ops fl r (i::l)=true):
  (∀k,r=some k->ZH ops ops.size i k=true)/\(∀j∈l,i∈fl\/j∈fl->Bk ops i j)/\iH ops fl (if i∈fl then r else some i) l=true:=by
 unfold iH at h;simp only[G6,Hm,HZ,HX]at h;let⟨⟨h1,h2⟩,h3⟩:=h;refine⟨λk hk=>by subst hk;exact h1,λj hj hij=>?_,?_⟩
 .rcases h2 j hj with h|h
  .simp only[Bool.or_eq_false_iff]at h;rcases hij with hx|hx
   .have:=h.1;rw[show fl.contains i=true from by simpa using hx]at this;cases this
   have:=h.2;rw[show fl.contains j=true from by simpa using hx]at this;cases this
  exact⟨h.1.1.1,h.1.1.2,h.1.2,h.2⟩
 by_cases hi:i∈fl;.rw[an hi];rw[an (by simpa using hi)]at h3;exact h3
 rw[ac hi];rw[ac (by simpa using hi)]at h3;exact h3
def iG{fl:List Nat}:∀{l:List Nat} {k i:Nat},iH ops fl (some k) l=true->i∈l->∃j,(j=k\/j∈l)/\ZH ops ops.size i j=true
 |[],_,_,_,h=>by cases h
 |m::l,k,i,h,hi=>by
  let⟨h1,_,h3⟩:=fR h;rcases Gn.1 hi with rfl|hi'
  .exact⟨k,.inl rfl,h1 k rfl⟩
  by_cases hm:m∈fl;.rw[an hm]at h3;let⟨j,hj,ha⟩:=iG h3 hi';exact⟨j,hj.imp id (λh=>by simp[h]),ha⟩
  rw[ac hm]at h3;let⟨j,hj,ha⟩:=iG h3 hi';rcases hj with rfl|hj
  .exact⟨j,.inr Si,ha⟩
  exact⟨j,.inr (by simp[hj]),ha⟩
end
section
variable{c:Cx}{l:List Oper}{Q:Exit->Act->World->Prop}{E:Env}{R:Hp}{L:List Qj}
variable{fl is:List Nat}{G:List Qj}
end
def qd(d:Option Addr)(v:Value)(g:LG):List Value:=[.pointer d,.bool g.down,.int .u64 g.term,.int .i64 g.vote,.int .u64 g.base,.int .u64 g.baseT,.string (Qs g.state),v]
@[reducible] def Xd (b : Nat) (d : Option Addr) (v : Value) (g : LG) : Qj := QA b (qd d v g) 111
def jS(b bd:Nat)(v u:Value)(g:LG)(D:DK):QTri prog 59 [.pointer (some ⟨b,0,none⟩)] R [Xd b (some ⟨bd,0,none⟩) v g,Xg bd u D] (.bool (g.down||D.down)):=by
 refine Tri.q ?_;unfold Xd qd;refine To func59 ntmps59 λ_ F _ r_ _ _=>?_;try simp[cB]
 refine cS λ_ k1=>Qc (Ps (Qd (k1 (cS λ_ k2=>Qc (Pm ?_)))));refine Pa (Yv Jy) (Pm (Pb Qf (Pb Qe (Pb (Ga GC Il) (Pb (La o4) (Pa Qn (Pm (QM 11 rfl (λhg11=>?_) (λhg11=>?_)))))))));try simp[dx]at hg11
 refine Pk (Pk (Pk (Pk (Pk (Pa Qq (Ps (Qd (k2 (Qg (r_ (Es results59 [Xd b (some ⟨bd,0,none⟩) v g,Xg bd u D] ?_)))))))))));refine⟨?_,rfl,rfl⟩;simp_all[QI];try simp[dx]at hg11
 refine Pb Qf (Pb Qe (Pb (Ga GC KA) (Pb (La oP) (Pb (Ca call85 (pP bd u D)) (Pa Qn (Ps (Qd (k2 (cE [2] (Qg (r_ ?_)))))))))));refine Es results59 [Xd b (some ⟨bd,0,none⟩) v g,Xg bd u D] ?_;refine⟨?_,rfl,rfl⟩;simp_all[QI]
def ZN(b:Nat)(d:Option Addr)(v:Value)(g:LG):QTri prog 24 [.pointer (some ⟨b,0,none⟩)] R [Xd b d v g] (.int .u64 g.term):=by
 refine Tri.q ?_;unfold Xd qd;refine To func24 ntmps24 λ_ F _ r_ _ _=>?_;try simp[cB]
 refine cS λ_ k1=>Qc (Ps (Qd (k1 (cS λ_ k2=>cS λ_ k3=>Qc (Pm (Pa (Yv Jy) (Qd (k3 (Qt rfl (Qh (k2 (cS λ_ k4=>Qc (Pm (Pa Qe (Pa (Ga GC Gw) ?_)))))))))))))));exact Pa (La QO) (Ps (Qd (k4 (Qg (r_ (Es results24 [Xd b d v g] ⟨rfl,rfl,rfl⟩))))))
def pe(b:Nat)(d:Option Addr)(v:Value)(g:LG):QTri prog 96 [.pointer (some ⟨b,0,none⟩)] R [Xd b d v g] (.int .i64 g.vote):=by
 refine Tri.q ?_;unfold Xd qd;refine To func96 ntmps96 λ_ F _ r_ _ _=>?_;try simp[cB]
 refine cS λ_ k1=>Qc (Ps (Qd (k1 (cS λ_ k2=>cS λ_ k3=>Qc (Pm (Pa (Yv Jy) (Qd (k3 (Qt rfl (Qh (k2 (cS λ_ k4=>Qc (Pm (Pa Qe (Pa (Ga GC GQ) ?_)))))))))))))));exact Pa (La o3) (Ps (Qd (k4 (Qg (r_ (Es results96 [Xd b d v g] ⟨rfl,rfl,rfl⟩))))))
def jT(b:Nat)(d:Option Addr)(v:Value)(g:LG):QTri prog 25 [.pointer (some ⟨b,0,none⟩)] R [Xd b d v g] (QI [.int .u64 g.base,.int .u64 g.baseT,.string (Qs g.state)]):=by
 refine Tri.q ?_;unfold Xd qd;refine To func25 ntmps25 λ_ F _ r_ _ _=>?_;try simp[cB]
 refine cS λ_ k1=>Qc (Ps (Ps (Ps (Qd (k1 (cS λ_ k2=>cS λ_ k3=>Qc (Pm (Pa (Yv Jy) (Qd (k3 (Qt rfl (Qh (k2 (cS λ_ k4=>dW (Qa Qf (Qa (Qe rfl) ?_))))))))))))))));refine Qa (Ga GC Gw) ?_;refine Qa (La QO) (Qa (Qf rfl) (Qa (Qe rfl) ?_));refine Qa (Ga GC Gw) ?_;refine Qa (La QO) (Qa (Qf rfl) (Qa (Qe rfl) ?_));refine Qa (Ga GC Ic) ?_;refine Qa (La o9) (Qa (Xs rfl) (Qa (Xs rfl) (Qa (Xs rfl) (Xj (k4 ?_)))));refine cE [2,3,4] (Qg (r_ ?_));refine Es results25 [Xd b d v g] ?_;exact⟨rfl,rfl,rfl⟩
def Zq(b:Nat)(d:Option Addr)(v:Value)(g:LG)(hg:g.ok)(hv:FrX entE R g.all v):QTri prog 60 [.pointer (some ⟨b,0,none⟩)] R [Xd b d v g] (.int .u64 g.last):=by
 obtain⟨q,cap,rfl,_,_⟩:=hv.shape;have hb:=hg.base;have hn:=hg.alln;refine Tri.q ?_;unfold Xd qd;refine To func60 ntmps60 λ_ F _ r_ _ _=>?_;try simp[cB]
 refine cS λ_ k1=>Qc (Ps (Qd (k1 (cS λ_ k2=>cS λ_ k3=>Qc (Pm (Pa (Yv Jy) (Qd (k3 (Qt rfl (Qh (k2 (cS λ_ k4=>dW (Qa Qf (Qa (Qe rfl) ?_))))))))))))));refine Qa (Ga GC Gw) ?_;refine Qa (La QO) (Qa (Qf rfl) (Qa (Qe rfl) ?_));refine Qa (Ga GC Iu) ?_;refine Qa (La zG) (Qa (QV GN rfl) ?_);refine Qa (XE HA Ib rfl (by(simp[IntKind.min,IntKind.max,IntKind.signed,IntKind.bits,GP,H3,H7];omega))) ?_;refine Qa Yg (Qa (Xs rfl) (Xj ?_));exact k4 (Qg (r_ (Es results60 [Xd b d (.slice q g.all.length cap) g] ⟨rfl,rfl,rfl⟩)))
def uJ(o:Option Qy):Value:=match o with
 |some e=>QI [.agg ⟨XB e⟩,.bool true]
 |none=>QI [.agg ⟨XB (0,[])⟩,.bool false]
def x'(o:Option Int):Value:=match o with
 |some e=>QI [.int .u64 e,.bool true]
 |none=>QI [.int .u64 0,.bool false]
def gq(b:Nat)(d:Option Addr)(v:Value)(g:LG)(hg:g.ok)(hv:FrX entE R g.all v)(i:Int)(hi:QQ i):QTri prog 40 [.pointer (some ⟨b,0,none⟩),.int .u64 i] R [Xd b d v g] (uJ (g.at i)):=by
 obtain⟨q,cap,rfl,_,_⟩:=hv.shape
 have hb:=hg.base
 have hn:=hg.alln
 have hl:=Zq (R:=R) b d _ g hg hv
 have hle:g.last=g.base+g.all.length:=rfl
 unfold QQ at hi
 refine Tri.q2 ?_
 unfold Xd qd at hl|-
 refine To func40 ntmps40 λ_ F _ r_ _ _=>?_
 try simp[cB]
 refine cS λ_ k1=>Qc (QC Qo rfl H2 rfl (λb4=>Ps (Qd (k1 (cS λ_ k2=>cS λ_ k3=>Qc (Pm ?_))))))
 refine Pa (Yv Jy) (Pm (Pb Qf (Pb Qf (Pb Qe (Pb (Ga GC Gw) (Pb (La QO) (Pb aL (Pa Qn (Pm (QM 16 rfl (λhg16=>?_) (λhg16=>?_)))))))))))
 have f1:¬g.base<i:=by(try simp at hg16);omega
 refine Pk (Pk (Pk (Pk (Pa Qq (Qd (k3 (QD rfl (cS λ_ k4=>Qc (Pa (Xh (cells:=[_,_]) [(0,1),(1,1)] IB H2 (λ_=>rfl)) (Sm (vs:=XB (0,[])) yQ (entE.one (R:=R) (x:=(0,[])) rfl) (Ps (Qd (k4 (cE [4,5] (Qg (r_ ?_))))))))))))))))
 refine Ea results40 (.cons (QP yQ) (.cons QH .nil)) [Xd b d (.slice q g.all.length cap) g] QB ?_
 rw[show g.at i=none by unfold LG.at;rw[ac (λh=>f1 h.1)]];exact⟨rfl,rfl⟩
 have f1:g.base<i:=by(try simp at hg16);omega
 refine Pb Qf (Pb Qf (Pb (Ca JO (hl)) (Pb XG (Pa Qn (Qd (k3 (Qi rfl (λhc21=>?_) (λhc21=>?_))))))))
 have f2:¬i<=g.last:=by(try simp at hc21);omega
 refine cS λ_ k6=>Qc (Pa (Xh (cells:=[_,_]) [(0,1),(1,1)] IB H2 (λ_=>rfl)) (Sm (vs:=XB (0,[])) yQ (entE.one (R:=R) (x:=(0,[])) rfl) (Ps (Qd (k6 (Qg (r_ ?_)))))))
 refine Ea results40 (.cons (QP yQ) (.cons QH .nil)) [Xd b d (.slice q g.all.length cap) g] QB ?_
 rw[show g.at i=none by unfold LG.at;rw[ac (λh=>f2 h.2)]];exact⟨rfl,rfl⟩
 have f2:i<=g.last:=by(try simp at hc21);omega
 refine Qh (k2 (cS λ_ k7=>?_))
 have hat:g.at i=g.all[(i-g.base-1).toNat]?:=by unfold LG.at;rw[an ⟨f1,f2⟩]
 obtain⟨e,he⟩:∃e,g.all[(i-g.base-1).toNat]?=some e:=⟨_,b7 Om⟩
 obtain⟨be,oe,ce,cse,hee,rfl,_,hcell⟩:=hv.at he
 obtain⟨rfl,rfl⟩:q=some ⟨be,oe,none⟩/\cap=ce:=by cases hee;exact⟨rfl,rfl⟩
 refine mG (L:=[QA b [.pointer d,.bool g.down,.int .u64 g.term,.int .i64 g.vote,.int .u64 g.base,.int .u64 g.baseT,.string (Qs g.state),.slice (some ⟨be,oe,none⟩) g.all.length cap] 111]) [0,1,2,3,4,5,6,7,8,9,10,11,12] [] [13,14] (Wc rfl Qf (Wc rfl (Qe rfl) ?_))
 refine Wc rfl (Ga GC Iu) ?_
 refine Wc rfl (La zG) (Wc rfl (Qf rfl) (Wc rfl (Qf rfl) (Wc rfl (Qe rfl) ?_)))
 refine Wc rfl (Ga GC Gw) ?_
 refine Wc rfl (La QO) ?_
 refine Wc rfl yg ?_
 refine Wc rfl yg ?_
 refine Wc rfl (QE GN Iy) ?_
 refine Wa rfl (λR1 hR1 G=>(Yq yQ (vs:=XB e) rfl rfl (λj u hj=>YD hR1 (hcell j u hj)))) (Xq (Xt ?_))
 try simp[cC]
 refine Sm (vs:=XB e) yQ (entE.one (R:=R) (x:=e) rfl) (Ps (Qd (k7 (cE [4,5] (Qg (r_ ?_))))))
 refine Ea results40 (.cons (QP yQ) (.cons QH .nil)) [Xd b d (.slice (some ⟨be,oe,none⟩) g.all.length cap) g] QB ?_
 rw[hat,he];exact⟨rfl,rfl⟩
def aR(b:Nat)(d:Option Addr)(v:Value)(g:LG)(hg:g.ok)(hv:FrX entE R g.all v)(i:Int)(hi:QQ i):QTri prog 100 [.pointer (some ⟨b,0,none⟩),.int .u64 i] R [Xd b d v g] (x' (g.termAt i)):=by
 have ha:=gq (R:=R) b d v g hg hv i hi;have hvo:=hv.one;refine Tri.q2 ?_;unfold Xd qd at ha|-;refine To func100 ntmps100 λ_ F _ r_ _ _=>?_;try simp[cB]
 refine cS λ_ k1=>Qc (Ps (Ps (Qd (k1 (cS λ_ k2=>cS λ_ k3=>Qc (Pm ?_))))));refine Pa (yT Jy) (Pm (Pb Qf (Pb Qf (Pb Qe (Pb (Ga GC Gw) (Pb (La QO) (Pb QL (Pa Qq (Qd (k3 (Qi rfl (λhc17=>?_) (λhc17=>?_))))))))))));have f1:i=g.base:=by simpa using hc17
 refine cS λ_ k5=>Qc (Pm (Pa Qe (Pa (Ga GC Gw) ?_)));refine Pa (La QO) (Ps (Ps (Qd (k5 (cE [4,5] (Qg (r_ ?_)))))));refine Es results100 [Xd b d v g] ?_;unfold LG.termAt;rw[an f1];exact⟨rfl,rfl⟩;have f1:¬i=g.base:=by simpa using hc17
 refine Qh (k2 (cS λ_ k6=>Qc (Pm (Pm (Pa (Ca Mf (ha)) ?_)))));obtain⟨e,ok,hev,htm⟩:∃(e:Qy) (ok:Bool),uJ (g.at i)=QI [.agg ⟨XB e⟩,.bool ok]/\x' (g.termAt i)=QI [.int .u64 e.1,.bool ok]:=by unfold LG.termAt;rw[ac f1];cases g.at i with|none=>exact⟨(0,[]),false,rfl,rfl⟩|some e=>exact⟨e,true,rfl,rfl⟩
 refine Xx 25 rfl (v':=QI [.agg ⟨XB e⟩,.bool ok]) hev (Pm (Pa (Ql rfl rfl) (Pa (Ql rfl rfl) (QC Qo rfl H2 rfl (λb6=>Sm (vs:=XB e) yQ (entE.one (R:=R) (x:=e) rfl) ?_)))));refine Ps (Qd (k6 (cS λ_ k7=>Qc (Pa (Ga IB Gw) ?_))));refine Pa (La QO) (Pm (Ps (Ps (Qd (k7 (Qg (r_ (Es results100 [Xd b d v g] ?_))))))));rw[htm];exact⟨rfl,rfl⟩
def eV(l:List Int):List Value:=l.map (Value.int .i64 ·)
def uy:Elt Int where
 P:=λ_ n cs=>cs=[.int .i64 n]
 sz:=1
 mono:=λ_ h=>h
 len:=λh=>by subst h;rfl
 one:=λh u hu=>by subst h;simp at hu;subst hu;rfl
def ux(l:List Int):eV l=(l.map λn=>[Value.int .i64 n]).flatten:=by
 induction l with
 |nil=>rfl
 |cons a l ih=>simp[eV]at ih|-;exact ih
def kE{l:List Int}(h:FrozenS R v l.length (eV l)):FrX uy R l v:=by
 rw[ux]at h;refine FrozenS.frx h ⟨Si,λi x cs h1 h2=>?_⟩;rw[HD,h1]at h2;simpa[uy]using h2.symm
def xz(hx:RepN R x cs)(k:Int):QTri prog 118 [.agg ⟨cs⟩,.int .i64 k] R [] (.bool (decide (x.kind=k))):=by
 obtain⟨kk,n,s,l,q,cap,rfl,rfl,hs,hl⟩:=hx.inv;refine Tri.q2 (To func118 ntmps118 λ_ F _ r_ _ _=>?_);try simp[cB]
 exact cS λ_ k1=>Qc (Xc Qo rfl rfl rfl (λb2=>Ps (Qd (k1 (cS λ_ k2=>Qc (Pa (Ga Gq GQ) (Pa (La o3) (Pm (Pa QL (Ps (Qd (k2 (Qg (r_ (Es results118 [] ⟨rfl,rfl⟩)))))))))))))))
def nj{ks:List Int}(h:(l.take i).map Nd.kind=ks.take i)(hx:l[i]?=some x)(hk:ks[i]?=some k)(e:x.kind=k):(l.take (i+1)).map Nd.kind=ks.take (i+1):=by
 rw[HV,HV,hx,hk];simp[h,e]
def Ak(l:List Nd)(q:Option Addr)(cap:Nat)(hl:RepL R l q cap)(ks:List Int)(v:Value)(hk:FrX uy R ks v):
  QTri prog 117 [.slice q l.length cap,v,.func (.func 118) ⟨[]⟩ ⟨[]⟩] R [] (.bool (decide (l.map Nd.kind=ks))):=by
 obtain⟨qk,capk,rfl,hck,hcm⟩:=hk.shape
 have hlb:ks.length<=maxLen:=Hn hck hcm
 have hll:l.length<=big:=by obtain⟨_,h,_⟩:=hl;exact h
 unfold maxLen at hlb
 unfold big at hll
 refine Tri.q2 (To func117 ntmps117 λ_ F _ r_ _ _=>?_)
 try simp only[cB]
 refine cS λ_ k1=>Qc (Ps (Qd (k1 (cS λ_ k2=>cS λ_ k3=>Qc (Pm (Pa (QV Gy) (Pm (Pa (QV JH) (Pa Yp (Qd (k3 (Qi rfl (λhc14=>?_) (λhc14=>?_)))))))))))))
 have hne:¬l.map Nd.kind=ks:=λh=>by have:=GM List.length h;simp at this;(try simp at hc14);omega
 refine cS λ_ k5=>Qc (Ps (Qd (k5 (Qg (r_ (Es MO [] ?_))))))
 rw[decide_eq_false hne];exact⟨rfl,rfl⟩
 have hll2:l.length=ks.length:=by(try simp at hc14);omega
 refine Qh (k2 (cS λ_ k6=>cS λ_ k7=>Qc (Pm (Pa (QV Gy) (Pm (Qd (k7 (Qp (Lp (λ(x:Nat)=>[(1,.slice qk ks.length capk),(2,.func (.func 118) ⟨[]⟩ ⟨[]⟩),(15,.slice q l.length cap),(16,.int .i64 (l.length:Int)),(17,.int .i64 (x:Int))]) (λx=>R) (λx=>F) (λx=>x<=l.length/\(l.take x).map Nd.kind=ks.take x) (λx=>l.length-x) 0 (⟨Si,Si⟩) ?_)))))))))
 rintro i ⟨hi,hal⟩
 try dsimp only
 refine cS λ_ k8=>Qc (Pa QR (Qd (k8 (cS λ_ k9=>Qi rfl (λhc18=>?_) (λhc18=>?_)))))
 try simp only[dx]at hc18
 refine Qh (k9 (cS λ_ k11=>Qp (cS λ_ k12=>Qc ?_)))
 have hi2:i<l.length:=by(try simp at hc18);omega
 obtain⟨x,hx⟩:∃x,l[i]?=some x:=⟨_,b7 hi2⟩
 obtain⟨k,hkx⟩:∃x,ks[i]?=some x:=⟨_,b7 Om⟩
 obtain⟨bx,ox,cx,rfl,hcl,hrep,hcell⟩:=hl.at hx
 obtain⟨bk,ok,ck,ck0,hek,rfl,_,hcellk⟩:=hk.at hkx
 obtain⟨rfl,rfl⟩:qk=some ⟨bk,ok,none⟩/\capk=ck:=by cases hek;exact⟨rfl,rfl⟩
 refine Pm (Pa (QE Gy HB rfl rfl Qu) (Pa ((Yq QF (vs:=cx) hcl rfl (λj u hj=>hcell j u hj))) (QC Qo rfl GK rfl (λb8=>?_))))
 refine Ps (aD (vs:=cx) QF hcl Qo rfl rfl (yI hrep) Qm rfl ?_)
 refine Qd (k12 (cS λ_ k13=>Qc (Pm (Pm ?_))))
 refine Pa (QE JH GQ) (Pa ((XQ o3 rfl (hcellk 0 (.int .i64 k) rfl))) (Ps (Qd (k13 (cE [1,2,8,9,15,16,17] ?_)))))
 refine cS λ_ k14=>Qc (Pm ?_)
 refine Pa ((ie (vs:=cx) QF hcl rfl Qm)) (Pm (Pa (rO rfl call118 rfl (xz hrep k) Za) (Pa Xa (Qd (k14 (Qi rfl (λhc30=>?_) (λhc30=>?_)))))))
 have hne:¬l.map Nd.kind=ks:=λh=>by have h1:=GM (λz=>z[i]?) h;simp only[HD,hx,hkx]at h1;simp at h1;simp[h1]at hc30
 refine cS λ_ k16=>Qc (Ps (Qd (k16 (Qg (r_ (Es MO [] ?_))))))
 rw[decide_eq_false hne];exact⟨rfl,rfl⟩
 try simp only[dx]at hc30
 refine Qh (k11 (Qc (Pa Qz (Pm (Qd (ro rfl (rd (i+1) (⟨Om,nj hal hx hkx (by simpa using hc30)⟩) Om)))))))
 try simp only[dx]at hc18
 refine QG (k6 (cE [] (cS λ_ k17=>Qc ?_)))
 obtain rfl:i=l.length:=by(try simp at hc18);omega
 rw[Ji,Gx Om]at hal
 refine Ps (Qd (k17 (Qg (r_ (Es MO [] ?_)))))
 rw[IS hal];exact⟨rfl,rfl⟩
def gM(l:List Nd)(q:Option Addr)(cap:Nat)(hl:RepL R l q cap)(ks:List Int)(v:Value)(hk:FrX uy R ks v):
  QTri prog 104 [.slice q l.length cap,v] R [] (.bool (decide (l.map Nd.kind=ks))):=by
 have hvo:=hk.one;refine Tri.q2 (To func104 ntmps104 λ_ F _ r_ _ _=>?_);try simp[cB]
 exact cS λ_ k1=>Qc (Ps (Qd (k1 (cS λ_ k2=>Qc (Pm (Pm (Pa (Ca call117 (Ak l q cap hl ks v hk)) (Ps (Qd (k2 (Qg (r_ (Es results104 [] ⟨rfl,rfl⟩)))))))))))))
def yj{n:Int}(h:QQ n):RepN R (YI n.toNat) [.int .i64 0,.int .u64 n,.string (Qs []),.slice none 0 0]:=by
 have:=RepL.node (R:=R) (k:=0) (n:=n.toNat) (s:=[]) (by simp[big]) (RepL.nil R);rw[(qO h).2]at this;exact this
def se{s:Bs}(h:s.length<=big):RepN R (qo s) [.int .i64 1,.int .u64 0,.string (Qs s),.slice none 0 0]:=
 RepL.node (R:=R) (k:=1) (n:=0) (s:=s) h (RepL.nil R)
def FB(hx:RepN R x cx)(hy:RepN R y cy):Kids R [x,y] [cx,cy]:=⟨rfl,λi z cs h1 h2=>by
 match i with
 |0=>cases h1;cases h2;exact hx
 |1=>cases h1;cases h2;exact hy
 |i+2=>simp at h1⟩
def A6{z:Nd}{cz:List Value}(hx:RepN R x cx)(hy:RepN R y cy)(hz:RepN R z cz):Kids R [x,y,z] [cx,cy,cz]:=⟨rfl,λi w cs h1 h2=>by
 match i with
 |0=>cases h1;cases h2;exact hx
 |1=>cases h1;cases h2;exact hy
 |2=>cases h1;cases h2;exact hz
 |i+3=>simp at h1⟩
def Ax:QTri prog 123 [.slice none 0 0] R [] (.slice none 0 0):=by
 refine Tri.q2 (To func123 ntmps123 λ_ F _ r_ _ _=>?_);try simp[cB]
 exact cS λ_ k1=>Qc (Ps (Qd (k1 (cS λ_ k2=>cS λ_ k3=>Qc (Pm (Pa ((gG Gy rfl rfl)) (Qd (k3 (QD rfl (cS λ_ k4=>Qc (Ps (Qd (k4 (Qg (r_ (Es MN [] ⟨rfl,rfl⟩))))))))))))))))
def Eh:QTri prog 119 [.slice none 0 0] R [] (.agg ⟨[.int .i64 2,.int .u64 0,.string (Qs []),.slice none 0 0]⟩):=by
 refine Tri.q2 (To func119 ntmps119 λ_ F _ r_ _ _=>?_);try simp[cB]
 refine cS λ_ k1=>Qc (QC Qo rfl GK rfl (λb2=>Qd (k1 (cS λ_ k2=>Qc (Pm (Pa (Ca call123 (Ax)) (Pa (Xh (cells:=[_,_,_,_]) [(0,1),(1,1),(2,1),(3,1)] Gq GK (λ_=>rfl)) (Qr QF rfl Qo rfl rfl (by(first|(simp[Value.oneCell'];done)|(intro u hu;simp[Gn,Gs,G7]at hu;rcases hu with rfl|rfl|rfl|rfl<;>first|rfl|assumption))) Qm (by(simp)) rfl ?_))))))));exact Qd (k2 (Qg (r_ (Ea results119 (.cons (QP QF) .nil) [] QB ⟨rfl,rfl⟩))))
def iR{α β:Type}{f:α->β}{l:List α}{x:α}(h:l[i]?=some x):(l.take (i+1)).map f=(l.take i).map f++[f x]:=by
 rw[HV,h];simp
def wv(l:List Qy)(v:Value)(hl:FrX entE R l v)(hb:∀e∈l,QQ e.1/\e.2.length<=1000000)(hn:l.length<=100000):Tri prog 108 [v] R [] (λr R' L'=>(∃cy,r=.agg ⟨cy⟩/\RepN R' (qv l) cy)/\L'=[]):=by
 obtain⟨q,cap,rfl,hcap,hcm⟩:=hl.shape
 refine To func108 ntmps108 λ_ F _ r_ _ _=>?_
 try simp[cB]
 refine cS λ_ k1=>Qc (QC Qo rfl GK rfl (λb2=>Qd (k1 (cS λ_ k2=>Qc (Pa (Ca call119 (Eh)) (QC Qo rfl GK rfl (λb3=>Qr QF rfl Qo rfl rfl (by(first|(simp[Value.oneCell'];done)|(intro u hu;simp[Gn,Gs,G7]at hu;rcases hu with rfl|rfl|rfl|rfl<;>first|rfl|assumption))) Qm (by(simp)) rfl ?_)))))))
 refine Zb (A:=QN 150 4 (.slice none 0 0) 0 ([]:List (List Value)).flatten) (Yr _ _) (Qd (k2 (cS λ_ k3=>cS λ_ k4=>Qc (Pm (Pa (QV GN) (Pm (Qd (k4 (Qp (Lp (λ(x1:Nat×Value×Hp×List (List Value))=>[(2,.pointer (some ⟨b2,0,none⟩)),(3,.pointer (some ⟨b3,0,none⟩)),(7,.slice q l.length cap),(8,.int .i64 (l.length:Int)),(9,.int .i64 (x1.1:Int))]) (λx1=>x1.2.2.1) (λx1=>QN 150 4 x1.2.1 x1.2.2.2.length x1.2.2.2.flatten::QA b3 [.int .i64 2,.int .u64 0,.string (Qs []),x1.2.1] 150::QA b2 [.int .i64 0,.int .u64 0,.string (Qs []),.slice none 0 0] 150::F) (λx1=>x1.1<=l.length/\x1.2.1.oneCell'=true/\R.le x1.2.2.1/\Kids x1.2.2.1 ((l.take x1.1).map qx) x1.2.2.2) (λx1=>l.length-x1.1) (0,.slice none 0 0,R,[]) (⟨by simp,rfl,Hp.le_refl _,rfl,λi x cs h=>by simp at h⟩) ?_))))))))))
 rintro⟨i,vl,R3,css⟩ ⟨hi,hvl,hR3,hk⟩
 try dsimp only
 dsimp only at hi hvl hR3 hk
 refine cS λ_ k5=>Qc (Pa QR (Qd (k5 (cS λ_ k6=>Qi rfl (λhc10=>?_) (λhc10=>?_)))))
 try simp[dx]at hc10
 refine Qh (k6 (cS λ_ k8=>Qp (cS λ_ k9=>Qc ?_)))
 have hi2:i<l.length:=by(try simp at hc10);omega
 obtain⟨e,hx⟩:∃x,l[i]?=some x:=⟨_,b7 hi2⟩
 obtain⟨be,oe,ce,cse,hee,rfl,_,hcell⟩:=(hl.mono hR3).at hx
 obtain⟨rfl,rfl⟩:q=some ⟨be,oe,none⟩/\cap=ce:=by cases hee;exact⟨rfl,rfl⟩
 obtain⟨hb1,hb2⟩:=hb e (Gv hx)
 have hcssl:css.length=i:=by have:=hk.1;simp at this;omega
 refine Pa (QE GN Iy rfl rfl Qu) (Pa ((Yq yQ (vs:=XB e) rfl rfl (λj u hj=>hcell j u hj))) (QC Qo rfl H2 rfl (λb5=>?_)))
 refine Sm (vs:=XB e) yQ (entE.one (R:=R3) (x:=e) rfl) ?_
 refine Qd (k9 (mG (L:=[QA b5 (XB e) 93,QA b3 [.int .i64 2,.int .u64 0,.string (Qs []),vl] 150]) [0,1,2,3,4,5,6,7] [8,9,10] [11,12,13] (Wc rfl (Ga Gq HP) ?_)))
 refine Wc rfl (La YY) ?_
 refine Wc rfl (Ga IB Gw) ?_
 refine Wc rfl (La QO) ?_
 refine Wc rfl (Ca J' (yC _)) ?_
 refine Wc rfl (Ga IB Ic) ?_
 refine Wc rfl (La o9) ?_
 refine Wc rfl (Ca call114 (oQ _)) (Xq (QT rfl ?_))
 try simp[cC]
 refine Qv (sz:=4) Qo rfl Gy HB GK rfl rfl rfl Dc Dc (λb21=>QU QB Qw (QT rfl ?_))
 try simp[cC]
 refine Ra call119 (A4 (.slice (some ⟨b21,0,none⟩) 2 2) [YI e.1.toNat,qo e.2] [[.int .i64 0,.int .u64 e.1,.string (Qs []),.slice none 0 0],[.int .i64 1,.int .u64 0,.string (Qs e.2),.slice none 0 0]] (FB (yj hb1) (se (by unfold big;omega))) Si) ?_
 rintro r R4 L' hR4 ⟨⟨cy,rfl,hrep⟩,rfl⟩
 obtain⟨k0,n0,s0,l0,q0,cap0,_,rfl,_,_⟩:=hrep.inv
 replace hrep:RepN R4 (qx e) _:=hrep
 try simp[cB]
 refine QU QB Qw (QT rfl ?_)
 try simp[cC]
 refine Qv (sz:=4) Qo rfl Gy HB GK rfl rfl rfl Dc Dc (λb23=>QU QB Qw (Xt ?_))
 try simp[cC]
 refine QZ (sz:=4) (by_:=56) ⟨Gy,_,_,rfl,rfl,rfl,rfl,rfl⟩ Qo rfl rfl rfl Qm (XL (xs:=[.int .i64 k0,.int .u64 n0,.string (Qs s0),.slice q0 l0.length cap0]) Gy Qm (yI hrep)) rfl Qu (by simp[maxLen];omega) (λv24 ho24 hh24=>?_)
 rw[gv,show css.length+1=(css++[[Value.int .i64 k0,.int .u64 n0,.string (Qs s0),.slice q0 l0.length cap0]]).length by simp]
 refine Pa (Ga Gq HP) (Sa YY (Qd (k8 (Qc (Pa Qz (Pm (Qd ?_)))))))
 refine ro rfl (rd ((i+1,v24,R4,css++[[.int .i64 k0,.int .u64 n0,.string (Qs s0),.slice q0 l0.length cap0]])) (⟨by dsimp only;omega,by assumption,Hp.le_trans hR3 hR4,by dsimp only;rw[iR hx];exact(hk.mono hR4).snoc hrep⟩) Do)
 try simp[dx]at hc10
 refine QG (k3 (cE [2,3] (cS λ_ k10=>Qc ?_)))
 obtain rfl:i=l.length:=by(try simp at hc10);omega
 rw[Ji]at hk
 refine YC (e:=150) (sz:=4) (n:=css.length) (xs:=css.flatten) Qm (λR4 hR4 hfr4 hxl4=>?_)
 have hln:css.length=(l.map qx).length:=hk.1
 rw[hln]at hfr4
 obtain⟨q2,cap2,rfl,hrl⟩:=(hk.mono hR4).repL hfr4 (by unfold big;simp;omega)
 have hnode:=hrl.node (k:=2) (n:=0) (s:=[]) (by simp[big])
 refine Pa ((Lm (vs:=[.int .i64 2,.int .u64 0,.string (Qs []),.slice q2 (l.map qx).length cap2]) QF)) (Sm (vs:=[.int .i64 2,.int .u64 0,.string (Qs []),.slice q2 (l.map qx).length cap2]) QF (yI hnode) (Qd (k10 (Qg (r_ ?_)))))
 refine Ea results108 (.cons (QP QF) .nil) [] (by exact Hp.le_trans hR3 hR4) ?_
 exact⟨⟨_,rfl,hnode⟩,rfl⟩
def wZ(n:Nat)(h:n<=16777216)(x:Int)(hx:x=(n:Int)):IntKind.u8.wrap (x.fdiv (2^min (24:Int).toNat IntKind.i64.bits))=((UInt8.ofNat (n/16777216%256)).toNat:Int)/\
  IntKind.u8.wrap (x.fdiv (2^min (16:Int).toNat IntKind.i64.bits))=((UInt8.ofNat (n/65536%256)).toNat:Int)/\
  IntKind.u8.wrap (x.fdiv (2^min (8:Int).toNat IntKind.i64.bits))=((UInt8.ofNat (n/256%256)).toNat:Int)/\IntKind.u8.wrap x=((UInt8.ofNat (n%256)).toNat:Int):=by
 subst hx;refine⟨?_,?_,?_,ek n⟩;.rw[zm n 24 24 rfl Dc,ek]
 .rw[zm n 16 16 rfl Dc,ek]
 rw[zm n 8 8 rfl Dc,ek]
def oF(v:Value)(ks:List Nd)(css:List (List Value))(hk:Kids R ks css)(hn:ks.length<=1000000)(hok:OkN (.mk 2 0 [] ks))(hw:YQ (.mk 2 0 [] ks)=(wr (.mk 2 0 [] ks),true))(hl:(wr (.mk 2 0 [] ks)).length<=16777216):
  Tri prog 111 [v] R [QN 150 4 v ks.length css.flatten] (λr R' L'=>r=QI [.string (Qs (cG (wr (.mk 2 0 [] ks)).length++wr (.mk 2 0 [] ks))),.bool true]/\L'=[]):=by
 obtain⟨s,hs⟩:∃s,s=wr (.mk 2 0 [] ks):=⟨_,rfl⟩;let⟨g1,g2,g3,g4⟩:=wZ s.length (by rw[hs];exact hl) s.length rfl;rw[<-hs]at hl hw|-;refine To func111 ntmps111 λ_ F _ r_ _ _=>?_;try simp[cB]
 refine cS λ_ k1=>Qc (Ps (Ps (Qd (k1 (cS λ_ k2=>Qc (Pm (Ra call119 (A4 v ks css hk hn) ?_)))))));rintro r R2 L' hR2 ⟨⟨cy,rfl,hrep⟩,rfl⟩;try simp[cB]
 refine Pa (Ca call122 ((Bq _ cy hrep hok))) ?_;refine Xx 10 rfl (v':=.tuple #[.string (Qs s),.bool true]) (by rw[hw]) (Pm (Pa (Ql rfl rfl) (Pa (Ql rfl rfl) (Ps (Ps (Qd (k2 (cS λ_ k3=>Qc ?_))))))));refine Pm (Pa (YP GZ) (Ps (Qd (k3 (cS λ_ k4=>Qc ?_)))));refine Pm (Pa (aK) ?_);refine Pa ((Yld.to (jl HA HN) (GM (Value.int .u8) g1))) (Pm (Pa (aK) ?_));refine Pa ((Yld.to (jl HA HN) (GM (Value.int .u8) g2))) (Pm (Pa (aK) ?_));refine Pa ((Yld.to (jl HA HN) (GM (Value.int .u8) g3))) (Pm (Pa ((Yld.to (jl HA HN) (GM (Value.int .u8) g4))) (Qv (sz:=1) Qo rfl Ig Lw Kk rfl rfl rfl Dc Dc (λb26=>XM (A:=QN 5 1 (.slice (some ⟨b26,0,none⟩) 4 4) 4 _) (B:=QN 5 1 (.slice (some ⟨b26,0,none⟩) 4 4) (cG s.length).length (XU (cG s.length))) Qm (λh hh=>hh) ?_))));refine Pa (zZ Ig HN GZ rfl Qm) (Pm ?_);refine Pa ((zB rfl rfl (by rw[Zh];omega))) ?_;refine Pm (Ps (Ps (Qd (k4 (cE [2,3] ?_)))));exact Qg (r_ (Er results111 [] hR2 ⟨rfl,rfl⟩))
def DK.put(D:DK)(s:Bs):Int×DK:=if(D.append s).1=0 then(D.append s).2.sync else D.append s
def DK.append_ok(h:D.ok m)(s:Bs):(D.append s).2.ok (m+s.length):=by
 have h1:=DK.step_ok h;unfold DK.append;split;.let⟨a,b,c⟩:=h1;exact⟨by simp;omega,by simp;omega,c⟩
 let⟨a,b,c⟩:=h1;exact⟨a,Hn b Om,c⟩
def DK.sync_ok(h:D.ok m):D.sync.2.ok m:=by
 have h1:=DK.step_ok h;unfold DK.sync;split;.let⟨a,b,c⟩:=h1;exact⟨Gl _,b,c⟩
 exact h1
def DK.put_ok(h:D.ok m)(s:Bs):(D.put s).2.ok (m+s.length):=by
 unfold DK.put;split;.exact DK.sync_ok (DK.append_ok h s)
 exact DK.append_ok h s
def mI(b bd:Nat)(v u:Value)(g:LG)(D:DK)(m:Nat)(r:Rec)(vk:Value)(css:List (List Value))(hk:Kids R r.kids css)(hg:g.ok)(hr:r.may g)(hl:(wr r.nd).length<=16777216)(hD:D.ok m)(hm:m<=900000000):
  Tri prog 94 [.pointer (some ⟨b,0,none⟩),vk] R [Xd b (some ⟨bd,0,none⟩) v g,Xg bd u D,Xf u D,QN 150 4 vk r.kids.length css.flatten]
   (λx R' L'=>x=.int .i64 (D.put r.bytes).1/\∃u',L'=[Xd b (some ⟨bd,0,none⟩) v {g with down:=g.down|| !decide ((D.put r.bytes).1=0)},Xg bd u' (D.put r.bytes).2,Xf u' (D.put r.bytes).2]):=by
 have hbl:r.bytes.length<=16777220:=by unfold Rec.bytes;simp[Zh];omega
 have hap:=DK.append_ok hD r.bytes;have hkl:r.kids.length<=1000000:=by cases r<;>simp[Rec.kids]
 unfold Xd qd;refine To func94 ntmps94 λσ F _ r_ _ _=>?_;try simp[cB]
 refine cS λ_ k1=>Qc (Ps (Qd (k1 (cS λ_ k2=>Qc (Pm (Ra call111 (oF vk r.kids css hk hkl (Rec.okN hr hg) (Rec.write r hl) hl) ?_))))));rintro x R2 L' hR2 ⟨rfl,rfl⟩;rw[show cG (wr (Nd.mk 2 0 [] r.kids)).length++wr (Nd.mk 2 0 [] r.kids)=r.bytes from rfl];try simp[cB]
 refine Pm (Pa (Ql rfl rfl) (Pa (Ql rfl rfl) (Ps (Ps (Qd (k2 (cS λ_ k3=>cS λ_ k4=>Qc ?_)))))));refine Pm (Pa Xa (Qd (k4 (Qt rfl (Qh (k3 (cS λ_ k5=>Qc (Pm (Pa Qe (Pa (Ga GC KA) ?_))))))))));refine Pa (La oP) (Pm (Ra call112 (AC bd u D m hD r.bytes Om) ?_));rintro x R3 L' hR3 ⟨rfl,rfl,u2,rfl⟩;try simp[cB]
 refine Ps (Qd (k5 (XN λK6 hK6=>?_)));have hJ7:∀(x:Value×Int×DK),D.put r.bytes=x.2->EJ ⟨prog,40,σ⟩ K6 [(0,.pointer (some ⟨b,0,none⟩)),(7,.int .i64 x.2.1)] R2 (QA b [.pointer (some ⟨bd,0,none⟩),.bool g.down,.int .u64 g.term,.int .i64 g.vote,.int .u64 g.base,.int .u64 g.baseT,.string (Qs g.state),v] 111::Xg bd x.1 x.2.2::Xf x.1 x.2.2::F):=by
  rintro⟨u4,e4,D4⟩ hput;try dsimp only
  dsimp only at hput;refine hK6 _ _ _ (cS λ_ k7=>Qc (Pm (Pm (Pa Qe (Pa (Ga GC Il) ?_)))));refine Pa (La o4) (Pm (QM 33 rfl (λhg33=>?_) (λhg33=>?_)));have hgd:g.down=true:=hg33;refine Pk (Pk (Pa Qq ?_));refine Xx 36 rfl (v':=.bool (g.down|| !decide (e4=0))) (by simp[hgd]) (Pa Qe (Pa (Ga GC Il) (Sa o4 (Qd (k7 (cE [7] ?_))))));refine cS λ_ k8=>Qc (Pm (Ps (Qd (k8 (Qg (r_ (Er results94 [Xd b (some ⟨bd,0,none⟩) v {g with down:=or g.down (!decide (e4=0))},Xg bd u4 D4,Xf u4 D4] hR2 ?_)))))));rw[hput];exact⟨rfl,u4,rfl⟩;have hgd:g.down=false:=by simpa using hg33
  refine Pb Qf (Pb Yp (Pa Qn ?_));refine Xx 36 rfl (v':=.bool (g.down|| !decide (e4=0))) (by simp[hgd]) (Pa Qe (Pa (Ga GC Il) (Sa o4 (Qd (k7 (cS λ_ k9=>Qc (Pm (Ps (Qd (k9 (Qg (r_ (Er results94 [Xd b (some ⟨bd,0,none⟩) v {g with down:=or g.down (!decide (e4=0))},Xg bd u4 D4,Xf u4 D4] hR2 ?_)))))))))))));rw[hput];exact⟨rfl,u4,rfl⟩
 refine cS λ_ k10=>Qc (Pm (Pa QL (Qd (k10 (Qi rfl (λhc22=>?_) (λhc22=>?_))))));have f1:(D.append r.bytes).1=0:=by simpa using hc22
 have f2:D.put r.bytes=(D.append r.bytes).2.sync:=by unfold DK.put;rw[an f1]
 refine Qc (Pm (Pa Qe (Pa (Ga GC KA) ?_)));refine Pa (La oP) (Ra call113 (DD bd u2 (D.append r.bytes).2 _ hap) ?_);rintro x R4 L' hR4 ⟨rfl,rfl,u3,rfl⟩;try simp[cB]
 refine Ps (Qd (Jn hJ7 ((u3,(D.append r.bytes).2.sync.1,(D.append r.bytes).2.sync.2)) (f2)));have f1:¬(D.append r.bytes).1=0:=by simpa using hc22
 have f2:D.put r.bytes=D.append r.bytes:=by unfold DK.put;rw[ac f1]
 refine Qh (Jn hJ7 ((u2,(D.append r.bytes).1,(D.append r.bytes).2)) (f2))
def LG.setTermD(g:LG)(D:DK)(t v:Int):Int×LG×DK:=
 if(g.down||D.down)=true then(3,g,D)else if t<g.term\/v< -1 then(1,g,D)
 else if(D.put (Rec.term t v).bytes).1=0 then(0,{g with term:=t,vote:=v},(D.put (Rec.term t v).bytes).2)else((D.put (Rec.term t v).bytes).1,{g with down:=true},(D.put (Rec.term t v).bytes).2)
def LG.addD(g:LG)(D:DK)(b:Int)(m:List Qy):Int×LG×DK:=
 if(g.down||D.down)=true then(3,g,D)else if b<g.base\/b>g.last then(1,g,D)
 else if(D.put (Rec.add b m).bytes).1=0 then(0,g.play (.add b m),(D.put (Rec.add b m).bytes).2)else((D.put (Rec.add b m).bytes).1,{g with down:=true},(D.put (Rec.add b m).bytes).2)
def dm(b bd:Nat)(va u:Value)(g:LG)(D:DK)(m:Nat)(t vt:Int)(hg:g.ok)(ht:QQ t)(hv:vt<9223372036854775807)(hv2: -9223372036854775808<=vt)(hvo:va.oneCell'=true)(hD:D.ok m)(hm:m<=900000000):
  Tri prog 75 [.pointer (some ⟨b,0,none⟩),.int .u64 t,.int .i64 vt] R [Xd b (some ⟨bd,0,none⟩) va g,Xg bd u D,Xf u D]
   (λx R' L'=>x=.int .i64 (g.setTermD D t vt).1/\∃u',L'=[Xd b (some ⟨bd,0,none⟩) va (g.setTermD D t vt).2.1,Xg bd u' (g.setTermD D t vt).2.2,Xf u' (g.setTermD D t vt).2.2]):=by
 have hdq:=jS (R:=R) b bd va u g D
 refine To func75 ntmps75 λ_ F _ r_ _ _=>?_
 try simp[cB]
 unfold Xd qd at hdq|-
 refine cS λ_ k1=>Qc (Ps (Qd (k1 (cS λ_ k2=>Qp (cS λ_ k3=>Qc (Pm (Pa (Ca Me (hdq)) (Ps (Qd (k3 (Qi rfl (λhc8=>?_) (λhc8=>?_))))))))))))
 have f0:(g.down||D.down)=true:=hc8
 refine cS λ_ k5=>Qc (Ps (Qd (k5 (Qg (r_ (Er Li [Xd b (some ⟨bd,0,none⟩) va g,Xg bd u D,Xf u D] (by first|exact Hp.le_refl _|exact hR2) ?_))))))
 rw[show g.setTermD D t vt=(3,g,D)by unfold LG.setTermD;rw[an f0]];exact⟨rfl,u,rfl⟩
 have f0:¬(g.down||D.down)=true:=by simpa using hc8
 refine cS λ_ k6=>Qc (Pm (Pm (Pa Qe (Pa (Ga GC Gw) ?_))))
 refine Pa (La QO) (Pa QR (Pm (QM 18 rfl (λhg18=>?_) (λhg18=>?_))))
 have f1:t<g.term\/vt< -1:=.inl (by simpa using hg18)
 refine Pk (Pk (Pa Qq (Ps (Qd (k6 (QD rfl (cS λ_ k7=>Qc (Ps (Qd (k7 (Qg (r_ (Er Li [Xd b (some ⟨bd,0,none⟩) va g,Xg bd u D,Xf u D] (by first|exact Hp.le_refl _|exact hR2) ?_)))))))))))))
 rw[show g.setTermD D t vt=(1,g,D)by unfold LG.setTermD;rw[ac f0,an f1]];exact⟨rfl,u,rfl⟩
 have f10:¬t<g.term:=by simpa using hg18
 refine Pb Qf (Pb QR (Pa Qn (Ps (Qd (k6 (cE [0,1,2,11] (Qi rfl (λhc11=>?_) (λhc11=>?_))))))))
 first|have f1:t<g.term\/vt< -1:=.inr (by simpa using hc11)|skip
 refine cS λ_ k9=>Qc (Ps (Qd (k9 (Qg (r_ (Er Li [Xd b (some ⟨bd,0,none⟩) va g,Xg bd u D,Xf u D] (by first|exact Hp.le_refl _|exact hR2) ?_))))))
 rw[show g.setTermD D t vt=(1,g,D)by unfold LG.setTermD;rw[ac f0,an f1]];exact⟨rfl,u,rfl⟩
 have f1:¬(t<g.term\/vt< -1):=by(try simp at hc11);omega
 refine Qh (k2 (cS λ_ k10=>cS λ_ k11=>Qc ?_))
 have hvb: -1<=vt/\vt<9223372036854775807:=Om
 have hmay:(Rec.term t vt).may g:=⟨ht,hvb.1,hvb.2⟩
 have hv1:QQ (vt+1):=by unfold QQ;omega
 have hu0:QQ 0:=by unfold QQ;omega
 refine Pm (Pa (Ca J' (yC _)) (Pm (Pa (Ca J' (yC _)) (Pm ?_))))
 refine Pa (Qz) (Pa ((XE HA Ib rfl (by(simp[IntKind.min,IntKind.max,IntKind.signed,IntKind.bits,GP,H3,H7];omega)))) (Pa (Ca J' (yC _)) (Qv (sz:=4) Qo rfl Gy HB GK rfl rfl rfl Dc Dc (λbk=>Ra call94 (mI b bd va u g D m (Rec.term t vt) (.slice (some ⟨bk,0,none⟩) 3 3) [[.int .i64 0,.int .u64 0,.string (Qs []),.slice none 0 0],[.int .i64 0,.int .u64 t,.string (Qs []),.slice none 0 0],[.int .i64 0,.int .u64 (vt+1),.string (Qs []),.slice none 0 0]] (A6 (yj hu0) (yj ht) (yj hv1)) hg hmay (Hn (Rec.len_term ht hvb) Dc) hD hm) ?_))))
 rintro x R2 L' hR2 ⟨rfl,u2,rfl⟩
 unfold Xd qd
 try simp[cB]
 refine Ps (Qd (k11 (cS λ_ k12=>Qc ?_)))
 refine Pm (Pa Yp (Qd (k12 (Qi rfl (λhc33=>?_) (λhc33=>?_)))))
 have f2:¬(D.put (Rec.term t vt).bytes).1=0:=by simpa using hc33
 refine cS λ_ k14=>Qc (Pm (Ps (Qd (k14 (Qg (r_ (Er Li [Xd b (some ⟨bd,0,none⟩) va {g with down:=or g.down (!decide ((D.put (Rec.term t vt).bytes).1=0))},Xg bd u2 (D.put (Rec.term t vt).bytes).2,Xf u2 (D.put (Rec.term t vt).bytes).2] (by first|exact Hp.le_refl _|exact hR2) ?_)))))))
 rw[show g.setTermD D t vt=((D.put (Rec.term t vt).bytes).1,{g with down:=true},(D.put (Rec.term t vt).bytes).2)by unfold LG.setTermD;rw[ac f0,ac f1,ac f2]];refine⟨rfl,u2,?_⟩;simp[f2]
 have f2:(D.put (Rec.term t vt).bytes).1=0:=by simpa using hc33
 refine Qh (k10 (cS λ_ k15=>Qc (Pm (Pm (Pm (Pm (Pa Qe (Pa (Ga GC Gw) ?_))))))))
 refine Sa QO (Pa Qe (Pa (Ga GC GQ) ?_))
 refine Sa o3 (Qd (k15 (cE [] (cS λ_ k16=>Qc (Ps (Qd (k16 (Qg (r_ (Er Li [Xd b (some ⟨bd,0,none⟩) va {g with term:=t,vote:=vt,down:=or g.down (!decide ((D.put (Rec.term t vt).bytes).1=0))},Xg bd u2 (D.put (Rec.term t vt).bytes).2,Xf u2 (D.put (Rec.term t vt).bytes).2] (by first|exact Hp.le_refl _|exact hR2) ?_))))))))))
 rw[show g.setTermD D t vt=(0,{g with term:=t,vote:=vt},(D.put (Rec.term t vt).bytes).2)by unfold LG.setTermD;rw[ac f0,ac f1,an f2]];refine⟨rfl,u2,?_⟩;simp[f2]
def FrX.sub{α:Type}{T:Elt α}{l:List α}(h:FrX T R l (.slice q l.length cap)){a b:Nat}(hab:a<=b)(hb:b<=l.length):FrX T R ((l.drop a).take (b-a)) (.slice (Ze q a cap T.sz) (b-a) (cap-a)):=by
 let⟨css,hE,q',cap',e,h1,h2,h3⟩:=h;cases e;have hlen:((l.drop a).take (b-a)).length=b-a:=by simp;omega
 refine⟨(css.drop a).take (b-a),(hE.drop a).take (b-a),Ze q a cap T.sz,cap-a,by rw[hlen],by rw[hlen];omega,Om,?_⟩;rw[hlen];rcases Js (b-a)with h0|h0
 .exact .inl h0
 rcases h3 with h3|⟨b0,off,rfl,hc⟩;.omega
 refine .inr ⟨b0,off+a*T.sz,by unfold Ze;rw[ac Om];simp[YH],λj u hj=>?_⟩;rw[<-uC (n:=T.sz) _ (λc hc=>hE.len c (Hx hc)),<-uE (n:=T.sz) _ hE.len,HS]at hj;split at hj;.rw[HF]at hj;rw[HQ];exact hc _ u hj
 cases hj
def Zp(l:List Qy):List Value:=(l.map XB).flatten
def Al{l:List Qy}(h:Els entE R l css):css=l.map XB:=by
 apply Ir;intro i;rw[HD];by_cases hi:i<l.length;.have h1:l[i]?=some l[i]:=b7 hi;have h2:css[i]?=some (css[i]'(by rw[h.1];exact hi)):=b7 (by rw[h.1];exact hi);have:=h.2 i _ _ h1 h2;rw[h1,h2];simpa[entE]using this
 rw[Ho (by rw[h.1];omega),Ho Om];rfl
def lV(l:List Qy):Els entE R l (l.map XB):=⟨Si,λi x cs h1 h2=>by rw[HD,h1]at h2;simpa[entE]using h2.symm⟩
def gz{l:List Qy}(h:FrozenS R v l.length (Zp l)):FrX entE R l v:=FrozenS.frx h (lV l)
def wQ(l m:List Qy):Zp l++Zp m=Zp (l++m):=by simp[Zp]
def FrX.ents{l:List Qy}(h:FrX entE R l v):FrS R v l.length (l.map XB).flatten:=by
 let⟨css,h1,h2⟩:=h;rw[Al h1]at h2;exact h2
def pO(l:List Qy)(v:Value)(hl:FrX entE R l v)(hn:l.length<=1000000):Tri prog 101 [v] R [] (λr R' L'=>R=R'/\r.oneCell'=true/\L'=[QN 93 2 r l.length (Zp l)]):=by
 have hfs:=hl.ents;obtain⟨q,cap,rfl,h1,h2,h3⟩:=hfs;have hfs:=hl.ents;refine To func101 ntmps101 λ_ F _ r_ _ _=>?_;try simp[cB]
 refine cS λ_ k1=>Qc (Ps (Qd (k1 (cS λ_ k2=>cS λ_ k3=>Qc (Pm (Pa ((gG GN rfl rfl)) (Qd (k3 (Qi rfl (λhc4=>?_) (λhc4=>?_))))))))));obtain rfl:q=none:=by simpa using hc4
 obtain rfl:l=[]:=by rcases h3 with h|⟨b,off,h,_⟩;exact Hk h;cases h
 exact cS λ_ k5=>Qc (Zb (A:=QN 93 2 (.slice none 0 0) 0 []) (Yr _ _) (Ps (Qd (k5 (Qg (r_ (Es LA [QN 93 2 (.slice none 0 0) 0 []] ⟨rfl,rfl,rfl⟩)))))));try simp[dx]at hc4
 refine Qh (k2 (cS λ_ k6=>Qc (Qv (sz:=2) Qo rfl GN Iy H2 rfl rfl rfl Dc Dc (λb5=>Pm (QZ (sz:=2) (by_:=24) ⟨GN,_,_,rfl,rfl,rfl,rfl,rfl⟩ Qo rfl rfl rfl Qm ((FrX.src (T:=entE) GN (lV l) hfs)) rfl Qu (by simp[maxLen];omega) (λv7 ho7 hh7=>?_))))));rw[H4,Hr];refine Ps (Qd (k6 (Qg (r_ (Es LA [QN 93 2 v7 l.length (Zp l)] ?_)))));exact⟨rfl,by assumption,rfl⟩
def ph(b:Nat)(d:Option Addr)(va vm:Value)(g:LG)(i:Int)(m:List Qy)(hg:g.ok)(hi:g.base<=i/\i<=g.last)(hva:FrX entE R g.all va)(hvm:FrX entE R m vm)(hm:m.length<=1000000):
  Tri prog 106 [.pointer (some ⟨b,0,none⟩),.int .u64 i,vm] R [Xd b d va g]
   (λx R' L'=>∃va',FrX entE R' (g.play (.add i m)).all va'/\L'=[Xd b d va' (g.play (.add i m))]):=by
 obtain⟨q,cap,rfl,hq1,hq2⟩:=hva.shape;have hvs:=hvm.ents;obtain⟨qm,capm,rfl,_,_⟩:=hvm.shape;have hb:=hg.base;have hn:=hg.alln;have hle:g.last=g.base+g.all.length:=rfl;obtain⟨k,hk⟩:∃k:Nat,i-g.base=k:=⟨(i-g.base).toNat,Om⟩;have hsub:=hva.sub (a:=0) (b:=k) Om Om;rw[JC,Ml]at hsub;have hkl:(g.all.take k).length<=1000000:=by simp;omega
 have hall:(g.play (.add i m)).all=g.all.take k++m:=by unfold LG.play;simp[hk]
 refine To func106 ntmps106 λ_ F _ _ n_ _=>?_;try simp only[cB]
 unfold Xd qd;refine mG (L:=[QA b [.pointer d,.bool g.down,.int .u64 g.term,.int .i64 g.vote,.int .u64 g.base,.int .u64 g.baseT,.string (Qs g.state),.slice q g.all.length cap] 111]) [0,1,2,3,4,5,6,7,8,9,10,11,13] [12,14] [15,16,17] ?_;refine Wc rfl Qf ?_;refine Wc rfl Qf ?_;refine Wc rfl Qe ?_;refine Wc rfl (Ga GC Iu) ?_;refine Wc rfl (La zG) ?_;refine Wc rfl Qf ?_;refine Wc rfl Qf ?_;refine Wc rfl Qe ?_;refine Wc rfl (Ga GC Gw) ?_;refine Wc rfl (La QO) ?_;refine Wc rfl (Yld.to (u:=.int .u64 (k:Int)) yg (by rw[hk])) ?_;refine Wc rfl (qu (l:=0) (h:=k) GN Iy rfl rfl ⟨.u64,rfl⟩ Om) ?_;refine Wc rfl Qf (Xq (QT rfl ?_));try simp only[cC]
 refine Ra call101 (pO (g.all.take k) _ hsub hkl) ?_;rintro r R2 L' hR2 ⟨rfl,hro,rfl⟩;try simp only[cB]
 refine QU QB Qw (QT rfl ?_);try simp only[cC]
 refine QZ (sz:=2) (by_:=24) ⟨GN,_,_,rfl,rfl,rfl,rfl,rfl⟩ Qo rfl rfl rfl Qm ((FrX.src (T:=entE) GN (lV m) hvs)) rfl Qu (by simp only[maxLen];omega) (λv20 ho20 hh20=>?_);rw[show Zp (g.all.take k)++(m.map XB).flatten=Zp (g.all.take k++m)from wQ _ _,<-Gm];refine QU QB Qw (Xt ?_);try simp only[cC]
 refine Pa Qe (Pa (Ga GC Iu) (Sa zG ?_));refine YC (e:=93) (sz:=2) (n:=(g.all.take k++m).length) (v:=v20) (xs:=Zp (g.all.take k++m)) Qm (λR3 hR3 hfr hxl=>?_);have hfx:=gz hfr;exact Qd (n_ (Et results106 [Xd b d v20 (g.play (.add i m))] hR3 ⟨v20,by rw[hall];exact hfx,rfl⟩))
def lN(b bd:Nat)(va u vm:Value)(g:LG)(D:DK)(n:Nat)(i:Int)(m:List Qy)(hg:g.ok)(hi:QQ i)(hva:FrX entE R g.all va)(hvm:FrX entE R m vm)(hm:m.length<=100000)(hmb:∀e∈m,QQ e.1/\e.2.length<=1000000)(hml:Yc m<=16000000)(hD:D.ok n)(hn:n<=900000000):
  Tri prog 87 [.pointer (some ⟨b,0,none⟩),.int .u64 i,vm] R [Xd b (some ⟨bd,0,none⟩) va g,Xg bd u D,Xf u D]
   (λx R' L'=>x=.int .i64 (g.addD D i m).1/\∃u' va',FrX entE R' (g.addD D i m).2.1.all va'/\L'=[Xd b (some ⟨bd,0,none⟩) va' (g.addD D i m).2.1,Xg bd u' (g.addD D i m).2.2,Xf u' (g.addD D i m).2.2]):=by
 have hdq:=jS (R:=R) b bd va u g D
 have hlq:=Zq (R:=R) b (some ⟨bd,0,none⟩) va g hg hva
 have hvo:=hva.one
 have hvmo:=hvm.one
 have hb:=hg.base
 have hle:g.last=g.base+g.all.length:=rfl
 refine To func87 ntmps87 λ_ F _ r_ _ _=>?_
 try simp[cB]
 unfold Xd qd at hdq hlq|-
 refine cS λ_ k1=>Qc (Ps (Qd (k1 (cS λ_ k2=>Qp (cS λ_ k3=>Qc (Pm (Pa (Ca Me (hdq)) (Ps (Qd (k3 (Qi rfl (λhc8=>?_) (λhc8=>?_))))))))))))
 have f0:(g.down||D.down)=true:=hc8
 refine cS λ_ k5=>Qc (Ps (Qd (k5 (Qg (r_ (Er Lf [Xd b (some ⟨bd,0,none⟩) va g,Xg bd u D,Xf u D] (by first|exact Hp.le_refl _|exact Hp.le_trans hR2 hR3|exact Hp.le_trans hR23 hR4) ?_))))))
 rw[show g.addD D i m=(3,g,D)by unfold LG.addD;rw[an f0]];exact⟨rfl,u,va,hva,rfl⟩
 have f0:¬(g.down||D.down)=true:=by simpa using hc8
 refine cS λ_ k6=>Qc (Pm (Pm (Pa Qe (Pa (Ga GC Gw) ?_))))
 refine Pa (La QO) (Pa QR (Pm (QM 18 rfl (λhg18=>?_) (λhg18=>?_))))
 have f1:i<g.base\/i>g.last:=.inl (by simpa using hg18)
 refine Pk (Pk (Pk (Pk (Pa Qq (Ps (Qd (k6 (cE [0,1,2,11] (QD rfl (cS λ_ k7=>Qc (Ps (Qd (k7 (Qg (r_ (Er Lf [Xd b (some ⟨bd,0,none⟩) va g,Xg bd u D,Xf u D] (by first|exact Hp.le_refl _|exact Hp.le_trans hR2 hR3|exact Hp.le_trans hR23 hR4) ?_))))))))))))))))
 rw[show g.addD D i m=(1,g,D)by unfold LG.addD;rw[ac f0,an f1]];exact⟨rfl,u,va,hva,rfl⟩
 have f10:¬i<g.base:=by simpa using hg18
 refine Pb Qf (Pb Qf (Pb (Ca JO (hlq)) (Pb XG (Pa Qn (Ps (Qd (k6 (Qi rfl (λhc11=>?_) (λhc11=>?_)))))))))
 first|have f1:i<g.base\/i>g.last:=.inr (by simpa using hc11)|skip
 refine cS λ_ k9=>Qc (Ps (Qd (k9 (Qg (r_ (Er Lf [Xd b (some ⟨bd,0,none⟩) va g,Xg bd u D,Xf u D] (by first|exact Hp.le_refl _|exact Hp.le_trans hR2 hR3|exact Hp.le_trans hR23 hR4) ?_))))))
 rw[show g.addD D i m=(1,g,D)by unfold LG.addD;rw[ac f0,an f1]];exact⟨rfl,u,va,hva,rfl⟩
 have f1:¬(i<g.base\/i>g.last):=by(try simp at hc11);omega
 refine Qh (k2 (cS λ_ k10=>cS λ_ k11=>Qc ?_))
 have hib:g.base<=i/\i<=g.last:=Om
 have hmay:(Rec.add i m).may g:=⟨hib,hmb,hm⟩
 have hu1:QQ 1:=by unfold QQ;omega
 have hln:=Rec.len_add (b:=i) (by have:=hg.alln;omega) hmb hm
 refine Pm (Pa (Ca J' (yC _)) (Pm (Pa (Ca J' (yC _)) (Pm (Ra call108 (wv m vm hvm hmb hm) ?_)))))
 rintro r R2 L' hR2 ⟨⟨cy,rfl,hrep⟩,rfl⟩
 have hrep2:=hrep
 obtain⟨k0,n0,s0,l0,q0,cap0,_,rfl,_,_⟩:=hrep2.inv
 try simp[cB]
 refine Qv (sz:=4) Qo rfl Gy HB GK rfl rfl rfl Dc Dc (λbk=>Ra call94 (mI b bd va u g D n (Rec.add i m) (.slice (some ⟨bk,0,none⟩) 3 3) [[.int .i64 0,.int .u64 1,.string (Qs []),.slice none 0 0],[.int .i64 0,.int .u64 i,.string (Qs []),.slice none 0 0],[.int .i64 k0,.int .u64 n0,.string (Qs s0),.slice q0 l0.length cap0]] (A6 (yj hu1) (yj hi) hrep) hg hmay Om hD hn) ?_)
 rintro x R3 L' hR3 ⟨rfl,u2,rfl⟩
 unfold Xd qd
 try simp[cB]
 refine Ps (Qd (k11 (cS λ_ k12=>Qc ?_)))
 refine Pm (Pa Yp (Qd (k12 (Qi rfl (λhc33=>?_) (λhc33=>?_)))))
 have f2:¬(D.put (Rec.add i m).bytes).1=0:=by simpa using hc33
 refine cS λ_ k14=>Qc (Pm (Ps (Qd (k14 (cE [6] (Qg (r_ ?_)))))))
 refine Er Lf [Xd b (some ⟨bd,0,none⟩) va {g with down:=or g.down (!decide ((D.put (Rec.add i m).bytes).1=0))},Xg bd u2 (D.put (Rec.add i m).bytes).2,Xf u2 (D.put (Rec.add i m).bytes).2] (by first|exact Hp.le_refl _|exact Hp.le_trans hR2 hR3|exact Hp.le_trans hR23 hR4) ?_
 rw[show g.addD D i m=((D.put (Rec.add i m).bytes).1,{g with down:=true},(D.put (Rec.add i m).bytes).2)by unfold LG.addD;rw[ac f0,ac f1,ac f2]];refine⟨rfl,u2,va,(hva.mono hR2).mono hR3,?_⟩;simp[f2]
 have f2:(D.put (Rec.add i m).bytes).1=0:=by simpa using hc33
 have hR23:=Hp.le_trans hR2 hR3
 obtain⟨g2,hg2⟩:∃g2:LG,g2={g with down:=or g.down (!decide ((D.put (Rec.add i m).bytes).1=0))}:=⟨_,rfl⟩
 have hgd:g2=g:=by rw[hg2];simp[f2]
 refine Qh (k10 (cS λ_ k15=>Qc (Pm (Pm (Pm (XM (A:=QA b [.pointer (some ⟨bd,0,none⟩),.bool (or g.down (!decide ((D.put (Rec.add i m).bytes).1=0))),.int .u64 g.term,.int .i64 g.vote,.int .u64 g.base,.int .u64 g.baseT,.string (Qs g.state),va] 111) (B:=Xd b (some ⟨bd,0,none⟩) va g) Qm (λh hh=>by simpa[f2,Xd,qd]using hh) (Ra call106 (ph b (some ⟨bd,0,none⟩) va vm g i m hg hib (hva.mono hR23) (hvm.mono hR23) Om) ?_)))))))
 rintro x R4 L' hR4 ⟨va2,hva2,rfl⟩
 unfold Xd qd
 try simp[cB]
 refine Qd (k15 (cE [] (cS λ_ k16=>Qc (Ps (Qd (k16 (Qg (r_ (Er Lf [Xd b (some ⟨bd,0,none⟩) va2 (g.play (.add i m)),Xg bd u2 (D.put (Rec.add i m).bytes).2,Xf u2 (D.put (Rec.add i m).bytes).2] (by first|exact Hp.le_refl _|exact Hp.le_trans hR2 hR3|exact Hp.le_trans hR23 hR4) ?_)))))))))
 rw[show g.addD D i m=(0,g.play (.add i m),(D.put (Rec.add i m).bytes).2)by unfold LG.addD;rw[ac f0,ac f1,an f2]];exact⟨rfl,u2,va2,hva2,rfl⟩
def RepN.kids{n:Nat}{s:Bs}(h:RepN R (.mk k n s l) cx):∃q cap,cx=[.int .i64 k,.int .u64 ((n:Nat):Int),.string (Qs s),.slice q l.length cap]/\RepL R l q cap:=by
 obtain⟨k1,n1,s1,l1,q,cap,e,rfl,_,hl⟩:=h.inv;cases e;exact⟨q,cap,rfl,hl⟩
def RepL.mono{R R':Hp}(hR:R.le R'){l:List Nd}{q:Option Addr}{cap:Nat}(h:RepL R l q cap):RepL R' l q cap:=by
 let⟨k1,n1,s1,l1,q1,cap1,e,e2,_,hl⟩:=((h.node (k:=0) (n:=0) (s:=[]) (by simp[big])).mono hR).inv;cases e;cases e2;exact hl
def RepL.kid{b off:Nat}(h:RepL R l (some ⟨b,off,none⟩) cap){n:Nat}{s:Bs}{m:List Nd}(hx:l[i]?=some (.mk k n s m)):
  ∃q c,RepL R m q c/\Hp.cell R ⟨b,off+i*4+0,none⟩=some (.int .i64 k)/\Hp.cell R ⟨b,off+i*4+1,none⟩=some (.int .u64 ((n:Nat):Int))/\Hp.cell R ⟨b,off+i*4+2,none⟩=some (.string (Qs s))/\Hp.cell R ⟨b,off+i*4+3,none⟩=some (.slice q m.length c):=by
 obtain⟨b1,o1,cs,e,_,hr,hc⟩:=h.at hx;cases e;obtain⟨q,c,rfl,hm⟩:=hr.kids;exact⟨q,c,hm,hc 0 _ rfl,hc 1 _ rfl,hc 2 _ rfl,hc 3 _ rfl⟩
def mY(l:List Qy)(cx:List Value)(hx:RepN R (qv l) cx)(hb:∀e∈l,QQ e.1)(hn:l.length<=100000):Tri prog 105 [.agg ⟨cx⟩] R [] (λr R' L'=>(∃v,r=QI [v,.bool true]/\FrX entE R' l v)/\L'=[]):=by
 obtain⟨q,cap,rfl,hl⟩:=RepN.kids (k:=2) (n:=0) (s:=[]) (l:=l.map qx) hx
 refine To func105 ntmps105 λ_ F _ r_ _ _=>?_
 try simp only[cB]
 refine cS λ_ k1=>Qc (Xc Qo rfl rfl rfl (λb1=>Ps (Ps (Qd (k1 (cS λ_ k2=>Qc (Ps (Zb (A:=QN 93 2 (.slice none 0 0) 0 (Zp [])) (Yr _ _) (Qd (k2 (cS λ_ k3=>cS λ_ k4=>Qc (Pa (Ga Gq HP) (Pa (La YY) (Pa (QV Gy) (Pm (Qd (k4 (Qp (Lp (λ(x1:Nat×Value×Hp)=>[(1,.pointer (some ⟨b1,0,none⟩)),(4,x1.2.1),(8,.slice q (l.map qx).length cap),(9,.int .i64 ((l.map qx).length:Int)),(10,.int .i64 (x1.1:Int))]) (λx1=>x1.2.2) (λx1=>QN 93 2 x1.2.1 x1.1 (Zp (l.take x1.1))::QA b1 [.int .i64 2,.int .u64 0,.string (Qs []),.slice q (l.map qx).length cap] 150::F) (λx1=>x1.1<=l.length/\x1.2.1.oneCell'=true/\R.le x1.2.2) (λx1=>l.length-x1.1) (0,.slice none 0 0,R) (⟨Si,rfl,Hp.le_refl _⟩) ?_)))))))))))))))))))
 rintro⟨i,vl,R3⟩ ⟨hi,hvl,hR3⟩
 try dsimp only
 dsimp only at hi hvl hR3
 refine cS λ_ k5=>Qc (Pa QR (Qd (k5 (cS λ_ k6=>Qi rfl (λhc11=>?_) (λhc11=>?_)))))
 try simp only[dx]at hc11
 refine Qh (k6 (cS λ_ k8=>Qp (cS λ_ k9=>Qc ?_)))
 have hi2:i<l.length:=by(try simp at hc11);omega
 obtain⟨e,he⟩:∃x,l[i]?=some x:=⟨_,b7 hi2⟩
 have heb:=hb e (Gv he)
 obtain⟨be,oe,ce,rfl,hcl,hrep,hcell⟩:=(hl.mono hR3).at (i:=i) (x:=qx e) (by rw[HD,he];rfl)
 obtain⟨q2,cap2,rfl,hl2⟩:=RepN.kids (k:=2) (n:=0) (s:=[]) (l:=[YI e.1.toNat,qo e.2]) hrep
 obtain⟨b2,o2,_,rfl,_⟩:=hl2.at (i:=0) rfl
 obtain⟨_,_,_,_,hc0,_,_⟩:=hl2.kid (i:=0) rfl
 obtain⟨_,_,_,_,_,hc1,_⟩:=hl2.kid (i:=1) rfl
 rw[(qO heb).2]at hc0
 refine Pa (QE Gy HB rfl rfl Qu) (Pa ((Yq QF (vs:=[.int .i64 2,.int .u64 0,.string (Qs []),.slice (some ⟨b2,o2,none⟩) 2 cap2]) hcl rfl (λj u hj=>hcell j u hj))) (QC Qo rfl GK rfl (λb6=>aD (vs:=[.int .i64 2,.int .u64 0,.string (Qs []),.slice (some ⟨b2,o2,none⟩) 2 cap2]) QF hcl Qo rfl rfl (yI hrep) Qm rfl (Qd (k9 (cS λ_ k10=>cS λ_ k11=>Qc (Pa (Ga Gq HP) (Pa (La YY) (Qv (sz:=1) Qo rfl JH GQ KR rfl rfl rfl Dc Dc (λb16=>YC (e:=3) (sz:=1) (n:=2) (v:=.slice (some ⟨b16,0,none⟩) 2 2) (xs:=eV [0,1]) Qm (λR4 hR4 hfr hxl=>Pa (Ca call104 (gM _ _ _ (hl2.mono hR4) [0,1] _ (kE (l:=[0,1]) hfr))) ?_)))))))))))
 refine Xx 17 rfl (v':=.bool true) (by simp[YI,qo,Nd.kind]) (Pa Xa (Qd (k11 (Qt rfl (Qh (k10 (mG (L:=[QA b6 [.int .i64 2,.int .u64 0,.string (Qs []),.slice (some ⟨b2,o2,none⟩) 2 cap2] 150]) [0,1,2,3,4,5,6,7,8,9,10,11] [12] [13,14] ?_)))))))
 refine Wc rfl Qf ?_
 refine Wc rfl (Ga Gq HP) ?_
 refine Wc rfl (La YY) ?_
 refine Wc rfl (QE Gy HB) ?_
 refine Wc rfl (Ga Gq Gw) (Wa rfl (λR1 hR1 G=>(XQ QO rfl (YD (Hp.le_trans hR4 hR1) hc0))) ?_)
 refine Wc rfl (Ga Gq HP) ?_
 refine Wc rfl (La YY) ?_
 refine Wc rfl (QE Gy HB) ?_
 refine Wc rfl (Ga Gq Ic) (Wa rfl (λR1 hR1 G=>(XQ o9 rfl (YD (Hp.le_trans hR4 hR1) hc1))) ?_)
 refine Wc rfl (Xh (cells:=[_,_]) [(0,1),(1,1)] IB H2 (λ_=>rfl)) (Xq (QT rfl ?_))
 try simp only[cC]
 refine Qv (sz:=2) Qo rfl GN Iy H2 rfl rfl rfl Dc Dc (λb31=>QU QB Qw (Xt ?_))
 try simp only[cC]
 refine QZ (sz:=2) (by_:=24) ⟨GN,_,_,rfl,rfl,rfl,rfl,rfl⟩ Qo rfl rfl rfl Qm (XL (xs:=XB e) GN Qm (entE.one (R:=R4) (x:=e) rfl)) rfl Qu (by simp only[maxLen];omega) (λv32 ho32 hh32=>?_)
 rw[show Zp (l.take i)++XB e=Zp (l.take (i+1))by unfold Zp;rw[iR he];simp]
 refine Ps (Qd (k8 (cE [1,4,8,9,10] ?_)))
 refine Qc (Pa Qz (Pm (Qd (ro rfl (rd ((i+1,v32,R4)) (⟨by dsimp only;omega,by assumption,Hp.le_trans hR3 hR4⟩) Do)))))
 try simp only[dx]at hc11
 refine QG (k3 (cS λ_ k12=>?_))
 obtain rfl:i=l.length:=by(try simp at hc11);omega
 rw[Ji]
 refine wV (e:=93) (sz:=2) (n:=l.length) (v:=vl) (xs:=Zp l) Qm (λR5 hR5 hfr5 hxl5=>?_)
 have hfx:=gz hfr5
 obtain⟨q5,cap5,rfl,_,_⟩:=hfx.shape
 refine dW (Qa Qf ?_)
 refine Qa (Ga Gq GQ) ?_
 refine Qa (La o3) (Qa (QL rfl rfl) (Qa (Xs rfl) (Qa (Xs rfl) (Xj ?_))))
 exact k12 (Qg (r_ (Er results105 [] (by exact Hp.le_trans hR3 hR5) ⟨⟨_,rfl,hfx⟩,rfl⟩)))
def oC(b:Nat)(d:Option Addr)(va:Value)(g:LG)(t v:Int)(hm:(Rec.term t v).may g)(cx:List Value)(hx:RepN R (Rec.term t v).nd cx):
  Tri prog 83 [.pointer (some ⟨b,0,none⟩),.agg ⟨cx⟩] R [Xd b d va g] (λx R' L'=>x=.bool true/\L'=[Xd b d va (g.play (.term t v))]):=by
 obtain⟨h1,h2,h3⟩:=hm;obtain⟨q,cap,rfl,hl⟩:=RepN.kids (k:=2) (n:=0) (s:=[]) (l:=[YI 0,YI t.toNat,YI (v+1).toNat]) hx;obtain⟨b0,o0,_,rfl,_⟩:=hl.at (i:=0) rfl;obtain⟨_,_,_,hk0,hn0,_,_⟩:=hl.kid (i:=0) rfl;obtain⟨_,_,_,_,hn1,_,_⟩:=hl.kid (i:=1) rfl;obtain⟨_,_,_,_,hn2,_,_⟩:=hl.kid (i:=2) rfl;rw[(qO h1).2]at hn1;rw[show(((v+1).toNat:Nat):Int)=v+1 by omega]at hn2;refine To func83 ntmps83 λ_ F _ r_ _ _=>?_;try simp[cB]
 unfold Xd qd;refine cS λ_ k1=>Qc (Xc Qo rfl rfl rfl (λbx=>Ps (Qd (k1 (cS λ_ k2=>cS λ_ k3=>Qc (Pa (Ga Gq HP) (Pa (La YY) (Pa (QV Gy) (Pa QL (Pm (Pb (Ga Gq HP) (Pb (La YY) (Pb (QE Gy HB) (Pb (Ga Gq GQ) (Pb ((XQ o3 rfl hk0)) (Pb Yp (Pa Qn (Qd (k3 (Qt rfl (Qh (k2 (cS λ_ k4=>Qc (Pa (Ga Gq HP) (Pa (La YY) (Ps (Qd (k4 (cS λ_ k5=>Qp (cS λ_ k6=>Qc (Pm ?_)))))))))))))))))))))))))))))));refine Pa (QE Gy HB) (Pa (Ga Gq Gw) (Pa ((XQ QO rfl hn0)) (Pa QL (Pm (Pb Qf (Qv (sz:=1) (cP rfl) rfl JH GQ KR rfl rfl rfl Dc Dc (λb32=>YC (e:=3) (sz:=1) (n:=3) (v:=.slice (some ⟨b32,0,none⟩) 3 3) (xs:=eV [0,0,0]) Qm (λR4 hR4 hfr hxl=>?_))))))));refine Pb (Ca call104 (gM _ _ _ (hl.mono hR4) [0,0,0] _ (kE (l:=[0,0,0]) hfr))) ?_;refine Xx 33 rfl (v':=.bool true) (by simp[YI,qo,qv,Nd.kind]) (Pa Qq (Ps (Qd (k6 (cE [0,5,24] (QD rfl (cS λ_ k7=>mG (L:=[]) [0,1,2,3,4,5,6,7,8,9,10,11,12,13] [14] [15,16,17] ?_)))))));refine Wc rfl Qf ?_;refine Wc rfl Qf ?_;refine Wc rfl Qf ?_;refine Wc rfl (QE Gy HB) ?_;refine Wc rfl (Ga Gq Gw) (Wa rfl (λR1 hR1 G=>(XQ QO rfl (YD (Hp.le_trans hR4 hR1) hn1))) ?_);refine Wc rfl Qf ?_;refine Wc rfl (QE Gy HB) ?_;refine Wc rfl (Ga Gq Gw) (Wa rfl (λR1 hR1 G=>(XQ QO rfl (YD (Hp.le_trans hR4 hR1) hn2))) ?_);refine Wc rfl (XE Ib HA rfl (by(simp[IntKind.min,IntKind.max,IntKind.signed,IntKind.bits,GP,H3,H7];omega))) ?_;refine Wc rfl (Yld.to Zs (u:=.int .i64 v) (by rw[show v+1-1=v by omega])) ?_;refine Wc rfl Qe ?_;refine Wc rfl (Ga GC Gw) (Xq (QT rfl ?_));try simp[cC]
 refine Sa QO (QU QB Qw (Xt ?_));try simp[cC]
 refine Pa Qe ?_;refine Pa (Ga GC GQ) ?_;refine Sa o3 ?_;exact Qd (k7 (cE [] (cS λ_ k8=>Qc (Ps (Qd (k8 (Qg (r_ (Es results83 [Xd b d va (g.play (.term t v))] ⟨rfl,rfl⟩)))))))))
def ry(b:Nat)(d:Option Addr)(va:Value)(g:LG)(i:Int)(m:List Qy)(hg:g.ok)(hm:(Rec.add i m).may g)(hva:FrX entE R g.all va)(cx:List Value)(hx:RepN R (Rec.add i m).nd cx):
  Tri prog 83 [.pointer (some ⟨b,0,none⟩),.agg ⟨cx⟩] R [Xd b d va g] (λx R' L'=>x=.bool true/\∃va',FrX entE R' (g.play (.add i m)).all va'/\L'=[Xd b d va' (g.play (.add i m))]):=by
 obtain⟨⟨h1,h2⟩,h3,h4⟩:=hm;have hb:=hg.base;obtain⟨q,cap,rfl,hl⟩:=RepN.kids (k:=2) (n:=0) (s:=[]) (l:=[YI 1,YI i.toNat,qv m]) hx;obtain⟨b0,o0,_,rfl,_⟩:=hl.at (i:=0) rfl;obtain⟨_,_,_,hk0,hn0,_,_⟩:=hl.kid (i:=0) rfl;obtain⟨_,_,_,_,hn1,_,_⟩:=hl.kid (i:=1) rfl;obtain⟨_,_,_,e2,_,hr2,hcell2⟩:=hl.at (i:=2) (x:=qv m) rfl;cases e2;obtain⟨q2,cap2,rfl,hl2⟩:=RepN.kids (k:=2) (n:=0) (s:=[]) (l:=m.map qx) hr2;rw[show((i.toNat:Nat):Int)=i by omega]at hn1;have hlq:=Zq (R:=R) b d va g hg hva;refine To func83 ntmps83 λ_ F _ r_ _ _=>?_;try simp[cB]
 unfold Xd qd;refine cS λ_ k1=>Qc (Xc Qo rfl rfl rfl (λbx=>Ps (Qd (k1 (cS λ_ k2=>cS λ_ k3=>Qc (Pa (Ga Gq HP) (Pa (La YY) (Pa (QV Gy) (Pa QL (Pm (Pb (Ga Gq HP) (Pb (La YY) (Pb (QE Gy HB) (Pb (Ga Gq GQ) (Pb ((XQ o3 rfl hk0)) (Pb Yp (Pa Qn (Qd (k3 (Qt rfl (Qh (k2 (cS λ_ k4=>Qc (Pa (Ga Gq HP) (Pa (La YY) (Ps (Qd (k4 (cS λ_ k5=>Qp (cS λ_ k6=>Qc (Pm ?_)))))))))))))))))))))))))))))));refine Pa (QE Gy HB) (Pa (Ga Gq Gw) (Pa ((XQ QO rfl hn0)) (Pa QL (Pm (Pk (Pk (Pk (Pa Qn (Ps (Qd (k6 (cE [0,5,24] ?_))))))))))));refine Qt rfl (cS λ_ k7=>Qc (Pm ?_));refine Pa (QE Gy HB) (Pa (Ga Gq Gw) (Pa ((XQ QO rfl hn0)) (Pa QL (Pm (Pb Qf (Qv (sz:=1) (cP rfl) rfl JH GQ KR rfl rfl rfl Dc Dc (λb59=>YC (e:=3) (sz:=1) (n:=3) (v:=.slice (some ⟨b59,0,none⟩) 3 3) (xs:=eV [0,0,2]) Qm (λR4 hR4 hfr hxl=>Pb (Ca call104 (gM _ _ _ (hl.mono hR4) [0,0,2] _ (kE (l:=[0,0,2]) hfr))) ?_))))))));refine Xx 60 rfl (v':=.bool true) (by simp[YI,qo,qv,Nd.kind]) (Pa Qq (Ps (Qd (k7 (QD rfl (cS λ_ k8=>Qc (Pm ?_)))))));refine Pa (QE Gy HB rfl rfl Qu) (Pa ((Yq QF (vs:=[.int .i64 2,.int .u64 0,.string (Qs []),.slice q2 (m.map qx).length cap2]) rfl rfl (λj u hj=>YD hR4 (hcell2 j u hj)))) (Ra call105 (mY m _ (hr2.mono hR4) (λe he=>(h3 e he).1) h4) ?_));rintro r R5 L' hR5 ⟨⟨vm,rfl,hvm⟩,rfl⟩;try simp[cB]
 refine Pm (Pa (Ql rfl rfl) (Pa (Ql rfl rfl) (Ps (Ps (Qd (k8 (cE [0,5,6,7] (cS λ_ k9=>cS λ_ k10=>dW ?_))))))));refine Qa Qf (Qa (Xa rfl) (Qa (Qf rfl) ?_));refine Qb Qf ?_;refine Qb (QE Gy HB) ?_;refine Qb (Ga Gq Gw) ?_;refine Qb ((XQ QO rfl (YD (Hp.le_trans hR4 hR5) hn1))) ?_;refine Qb Qf ?_;refine Qb Qe ?_;refine Qb (Ga GC Gw) ?_;refine Qb (La QO) ?_;refine Qb ((Yld.to (u:=.bool false) QR (by rw[decide_eq_false Om]))) ?_;refine Qa Qn (Qa (Qf rfl) ?_);refine Qb Qf ?_;refine Qb (QE Gy HB) ?_;refine Qb (Ga Gq Gw) ?_;refine Qb ((XQ QO rfl (YD (Hp.le_trans hR4 hR5) hn1))) ?_;refine Qb Qf ?_;refine Qb (Ca JO (Zq b d va g hg (hva.mono (Hp.le_trans hR4 hR5)))) ?_;refine Qb ((Yld.to (u:=.bool false) XG (by rw[decide_eq_false Om]))) (Qa (Qn rfl rfl) (Xj (k10 ?_)));refine cE [0,5,6,90] ?_;refine Qt rfl (Qh (k9 (cS λ_ k11=>Qc (Pm (Pm ?_)))));refine Pa (QE Gy HB) ?_;refine Pa (Ga Gq Gw) (Pa ((XQ QO rfl (YD (Hp.le_trans hR4 hR5) hn1))) (Pm (Ra call106 (ph b d va vm g i m hg ⟨h1,h2⟩ (hva.mono (Hp.le_trans hR4 hR5)) hvm Om) ?_)));rintro r R6 L' hR6 ⟨va2,hva2,rfl⟩;try simp[cB]
 exact Qd (k11 (cE [] (cS λ_ k12=>Qc (Ps (Qd (k12 (Qg (r_ (Er results83 [Xd b d va2 (g.play (.add i m))] (by exact Hp.le_trans hR4 (Hp.le_trans hR5 hR6)) ⟨rfl,va2,hva2,rfl⟩)))))))))
def rx(b:Nat)(d:Option Addr)(va:Value)(g h:LG)(hh:h.ok)(hvo:va.oneCell'=true)(cx:List Value)(hx:RepN R (Rec.all h).nd cx):
  Tri prog 83 [.pointer (some ⟨b,0,none⟩),.agg ⟨cx⟩] R [Xd b d va g] (λx R' L'=>x=.bool true/\∃va',FrX entE R' (g.play (.all h)).all va'/\L'=[Xd b d va' (g.play (.all h))]):=by
 have hb:=hh.base;have hv:=hh.vote;obtain⟨q,cap,rfl,hl⟩:=RepN.kids (k:=2) (n:=0) (s:=[]) (l:=[YI 2,YI h.term.toNat,YI (h.vote+1).toNat,YI h.base.toNat,YI h.baseT.toNat,qo h.state,qv h.all]) hx;obtain⟨b0,o0,_,rfl,_⟩:=hl.at (i:=0) rfl;obtain⟨_,_,_,hk0,hn0,_,_⟩:=hl.kid (i:=0) rfl;obtain⟨_,_,_,_,hn1,_,_⟩:=hl.kid (i:=1) rfl;obtain⟨_,_,_,_,hn2,_,_⟩:=hl.kid (i:=2) rfl;obtain⟨_,_,_,_,hn3,_,_⟩:=hl.kid (i:=3) rfl;obtain⟨_,_,_,_,hn4,_,_⟩:=hl.kid (i:=4) rfl;obtain⟨_,_,_,_,_,hs5,_⟩:=hl.kid (i:=5) rfl;obtain⟨_,_,_,e2,_,hr2,hcell2⟩:=hl.at (i:=6) (x:=qv h.all) rfl;cases e2;obtain⟨q2,cap2,rfl,hl2⟩:=RepN.kids (k:=2) (n:=0) (s:=[]) (l:=h.all.map qx) hr2;rw[(qO hh.term).2]at hn1;rw[show(((h.vote+1).toNat:Nat):Int)=h.vote+1 by omega]at hn2;rw[show((h.base.toNat:Nat):Int)=h.base by omega]at hn3;rw[(qO hh.baseT).2]at hn4;refine To func83 ntmps83 λ_ F _ r_ _ _=>?_;try simp[cB]
 unfold Xd qd;refine cS λ_ k1=>Qc (Xc Qo rfl rfl rfl (λbx=>Ps (Qd (k1 (cS λ_ k2=>cS λ_ k3=>Qc (Pa (Ga Gq HP) (Pa (La YY) (Pa (QV Gy) (Pa QL (Pm (Pb (Ga Gq HP) (Pb (La YY) (Pb (QE Gy HB) (Pb (Ga Gq GQ) (Pb ((XQ o3 rfl hk0)) (Pb Yp (Pa Qn (Qd (k3 (Qt rfl (Qh (k2 (cS λ_ k4=>Qc (Pa (Ga Gq HP) (Pa (La YY) (Ps (Qd (k4 (cS λ_ k5=>Qp (cS λ_ k6=>Qc (Pm ?_)))))))))))))))))))))))))))))));refine Pa (QE Gy HB) (Pa (Ga Gq Gw) (Pa ((XQ QO rfl hn0)) (Pa QL (Pm (Pk (Pk (Pk (Pa Qn (Ps (Qd (k6 (cE [0,5,24] ?_))))))))))));refine Qt rfl (cS λ_ k7=>Qc (Pm ?_));refine Pa (QE Gy HB) (Pa (Ga Gq Gw) (Pa ((XQ QO rfl hn0)) (Pa QL (Pm (Pk (Pk (Pk (Pa Qn (Ps (Qd (k7 (Qt rfl (cS λ_ k8=>Qc (Pm ?_))))))))))))));refine Pa (QE Gy HB) (Pa (Ga Gq Gw) (Pa ((XQ QO rfl hn0)) (Pa QL (Pm (Pb Qf (Qv (sz:=1) (cP rfl) rfl JH GQ KR rfl rfl rfl Dc Dc (λb106=>YC (e:=3) (sz:=1) (n:=7) (v:=.slice (some ⟨b106,0,none⟩) 7 7) (xs:=eV [0,0,0,0,0,1,2]) Qm (λR4 hR4 hfr hxl=>Pb (Ca call104 (gM _ _ _ (hl.mono hR4) [0,0,0,0,0,1,2] _ (kE (l:=[0,0,0,0,0,1,2]) hfr))) ?_))))))));refine Xx 107 rfl (v':=.bool true) (by simp[YI,qo,qv,Nd.kind]) (Pa Qq (Ps (Qd (k8 (cE [0,5,98] ?_)))));refine QD rfl (cS λ_ k9=>Qc (Pm ?_));refine Pa (QE Gy HB) (Pa ((Yq QF (vs:=[.int .i64 2,.int .u64 0,.string (Qs []),.slice q2 (h.all.map qx).length cap2]) rfl rfl (λj u hj=>YD hR4 (hcell2 j u hj)))) (Ra call105 (mY h.all _ (hr2.mono hR4) (λe he=>(hh.all e he).1) hh.alln) ?_));rintro r R5 L' hR5 ⟨⟨vm,rfl,hvm⟩,rfl⟩;try simp[cB]
 refine Pm (Pa (Ql rfl rfl) (Pa (Ql rfl rfl) (Ps (Ps (Qd (k9 (cS λ_ k10=>?_)))))));have hvmo:=hvm.one;have hR45:=Hp.le_trans hR4 hR5;refine mG (L:=[]) [0,1,2,3,4,5,6,7,8,9,10,11,12,13,14,15,16,17,18,19,20,21,22,23,24,25,26,27,28,29,30] [31,32,33,34,35,36,37,38,39,40,41,42,43] [44,45,46] ?_;refine Wc rfl Qf ?_;refine Wc rfl Qf ?_;refine Wc rfl Qf ?_;refine Wc rfl Qf ?_;refine Wc rfl Qf ?_;refine Wc rfl Qf ?_;refine Wc rfl Qf ?_;refine Wc rfl (QE Gy HB) ?_;refine Wc rfl (Ga Gq Gw) (Wa rfl (λR1 hR1 G=>(XQ QO rfl (YD (Hp.le_trans hR45 hR1) hn1))) ?_);refine Wc rfl Qf ?_;refine Wc rfl (QE Gy HB) ?_;refine Wc rfl (Ga Gq Gw) (Wa rfl (λR1 hR1 G=>(XQ QO rfl (YD (Hp.le_trans hR45 hR1) hn2))) ?_);refine Wc rfl (XE Ib HA rfl (by(simp[IntKind.min,IntKind.max,IntKind.signed,IntKind.bits,GP,H3,H7];omega))) ?_;refine Wc rfl (Yld.to Zs (u:=.int .i64 h.vote) (by rw[show h.vote+1-1=h.vote by omega])) ?_;refine Wc rfl Qf ?_;refine Wc rfl (QE Gy HB) ?_;refine Wc rfl (Ga Gq Gw) (Wa rfl (λR1 hR1 G=>(XQ QO rfl (YD (Hp.le_trans hR45 hR1) hn3))) ?_);refine Wc rfl Qf ?_;refine Wc rfl (QE Gy HB) ?_;refine Wc rfl (Ga Gq Gw) (Wa rfl (λR1 hR1 G=>(XQ QO rfl (YD (Hp.le_trans hR45 hR1) hn4))) ?_);refine Wc rfl Qf ?_;refine Wc rfl (QE Gy HB) ?_;refine Wc rfl (Ga Gq Ic) (Wa rfl (λR1 hR1 G=>(XQ o9 rfl (YD (Hp.le_trans hR45 hR1) hs5))) ?_);refine Wc rfl Qf ?_;refine Wc rfl Qe ?_;refine Wc rfl (Ga GC Gw) (Xq (QT rfl ?_));try simp[cC]
 refine Sa QO (QU QB Qw (QT rfl ?_));try simp[cC]
 refine Pa Qe (QU QB Qw (QT rfl ?_));try simp[cC]
 refine Pa (Ga GC GQ) (QU QB Qw (QT rfl ?_));try simp[cC]
 refine Sa o3 (QU QB Qw (QT rfl ?_));try simp[cC]
 refine Pa Qe (QU QB Qw (QT rfl ?_));try simp[cC]
 refine Pa (Ga GC Gw) (QU QB Qw (QT rfl ?_));try simp[cC]
 refine Sa QO (QU QB Qw (QT rfl ?_));try simp[cC]
 refine Pa Qe (QU QB Qw (QT rfl ?_));try simp[cC]
 refine Pa (Ga GC Gw) (QU QB Qw (QT rfl ?_));try simp[cC]
 refine Sa QO (QU QB Qw (QT rfl ?_));try simp[cC]
 refine Pa Qe (QU QB Qw (QT rfl ?_));try simp[cC]
 refine Pa (Ga GC Ic) (QU QB Qw (QT rfl ?_));try simp[cC]
 refine Sa o9 (QU QB Qw (Xt ?_));try simp[cC]
 refine Pa Qe (Pa (Ga GC Iu) (Sa zG (Qd (k10 (cE [9] ?_)))));exact cS λ_ k11=>Qc (Pm (Ps (Qd (k11 (Qg (r_ (Er results83 [Xd b d vm (g.play (.all h))] (by exact Hp.le_trans hR4 hR5) ⟨rfl,vm,hvm,rfl⟩)))))))
theorem xL(b:Nat)(d:Option Addr)(va:Value)(g:LG)(r:Rec)(hg:g.ok)(hm:r.may g)(hva:FrX entE R g.all va)(cx:List Value)(hx:RepN R r.nd cx):
  Tri prog 83 [.pointer (some ⟨b,0,none⟩),.agg ⟨cx⟩] R [Xd b d va g] (λx R' L'=>x=.bool true/\∃va',FrX entE R' (g.play r).all va'/\L'=[Xd b d va' (g.play r)]):=by
 cases r with
 |term t v=>exact Tri.mono (oC b d va g t v hm cx hx) (λ_ _ _ hR h=>⟨h.1,va,hva.mono hR,h.2⟩) (λ_ _ _ _ h=>h)
 |add i m=>exact ry b d va g i m hg hm hva cx hx
 |all h=>exact rx b d va g h hm hva.one cx hx
theorem uj(A B s:Nat)(hA:A<2^s)(h:A+B*2^s<9223372036854775808):zs .i64 ((B*2^s:Nat):Int) ((A:Nat):Int)=((A+B*2^s:Nat):Int):=by
 rw[<-wi A B s hA h]
 unfold zs
 rw[BitVec.or_comm]
theorem EV(l:Bs):zs .i64 (zs .i64 (zs .i64 (IntKind.i64.wrap (XY l 0*2^min (24:Int).toNat IntKind.i64.bits)) (IntKind.i64.wrap (XY l 1*2^min (16:Int).toNat IntKind.i64.bits))) (IntKind.i64.wrap (XY l 2*2^min (8:Int).toNat IntKind.i64.bits))) (XY l 3)=((jK l:Nat):Int):=by
 have e:∀i:Nat,XY l (i:Int)=(((l.getD i 0).toNat:Nat):Int):=λi=>rfl
 have b:∀i:Nat,(l.getD i 0).toNat<256:=λi=>(l.getD i 0).toNat_lt
 have b0:=b 0
 have b1:=b 1
 have b2:=b 2
 have b3:=b 3
 rw[show XY l 0=(((l.getD 0 0).toNat:Nat):Int)from rfl,show XY l 1=(((l.getD 1 0).toNat:Nat):Int)from rfl,show XY l 2=(((l.getD 2 0).toNat:Nat):Int)from rfl,show XY l 3=(((l.getD 3 0).toNat:Nat):Int)from rfl]
 unfold jK
 generalize (l.getD 0 0).toNat=x0 at*
 generalize (l.getD 1 0).toNat=x1 at*
 generalize (l.getD 2 0).toNat=x2 at*
 generalize (l.getD 3 0).toNat=x3 at*
 rw[gL x0 24 24 rfl Dc Om,gL x1 16 16 rfl Dc Om,gL x2 8 8 rfl Dc Om]
 rw[uj (x1*2^16) x0 24 Om Om]
 rw[show x1*2^16+x0*2^24=(x1+x0*256)*2^16 by omega,uj (x2*2^8) (x1+x0*256) 16 Om Om]
 rw[show x2*2^8+(x1+x0*256)*2^16=(x2+(x1+x0*256)*256)*2^8 by omega,uj x3 (x2+(x1+x0*256)*256) 8 Om Om]
 congr 1
 omega
def DK.open(D:DK)(rs:List Rec)(tail:Bs):Int×DK:=if D.down=true then(3,D)else if tail=[]then(0,D)else D.swap (Xr rs)
theorem qT(r:Rec)(l:List Rec):Xr (r::l)=r.bytes++Xr l:=by simp[Xr]
theorem mC(p:Plays g [] h):g=h:=by cases p;rfl
theorem oB{rs:List Rec}{rest tail:Bs}(hp:Plays g rs h)(hr:rest=Xr rs++tail)(ht:rest.length<4\/jK rest>rest.length-4):rs=[]:=by
 cases hp with
 |nil=>rfl
 | @cons _ _ r l h1 h2 h3 h4=>
  exfalso
  have e:rest=cG (wr r.nd).length++(wr r.nd++(Xr l++tail)):=by rw[hr,qT,Rec.bytes];simp
  have e2:jK rest=(wr r.nd).length:=by rw[e,g8 Om]
  have e3:rest.length=4+(wr r.nd).length+(Xr l++tail).length:=by rw[e];simp[Zh];omega
  omega
theorem vO{rs:List Rec}{rest tail:Bs}(hp:Plays g rs h)(hr:rest=Xr rs++tail)(ht:yr tail)(h4:4<=rest.length)(hn:jK rest<=rest.length-4):
  ∃r rs3,rs=r::rs3/\g.ok/\r.may g/\(wr r.nd).length<=16777216/\Plays (g.play r) rs3 h:=by
 cases hp with
 |nil _=>exact absurd (show yr rest by rw[hr];exact ht) (by unfold yr;omega)
 |cons h1 h2 h3 h4=>exact⟨_,_,rfl,h1,h2,h3,h4⟩
theorem Eb(bd:Nat)(u:Value)(D:DK)(m:Nat)(rs:List Rec)(tail:Bs)(h:LG)(hD:D.ok m)(hm:m<=900000000)(hb:D.b=Xr rs++tail)(ht:yr tail)(hp:Plays LG.new rs h):
   Tri prog 56 [.pointer (some ⟨bd,0,none⟩)] R [Xg bd u D,Xf u D] (λx R' L'=>∃p u',x=QI [p,.int .i64 (D.open rs tail).1]/\
     ((p=.pointer none/\(D.open rs tail).1≠0/\L'=[Xg bd u' (D.open rs tail).2,Xf u' (D.open rs tail).2])\/
      (∃b va,p=.pointer (some ⟨b,0,none⟩)/\(D.open rs tail).1=0/\FrX entE R' h.all va/\L'=[Xd b (some ⟨bd,0,none⟩) va h,Xg bd u' (D.open rs tail).2,Xf u' (D.open rs tail).2]))):=by
 have hbl:=hD.2.1
 obtain⟨B,hB⟩:∃B,B=D.b:=⟨_,rfl⟩
 have hBl:B.length<=900000000:=by rw[hB];omega
 refine To func56 ntmps56 λσ F _ r_ _ _=>?_
 try simp only[cB]
 refine cS λ_ k1=>Qc (Ps (Ps (Qd (k1 (cS λ_ k2=>Qc (Pm (Pa (Ca call81 (D1 bd u D)) (Pm (Pa (Ql rfl rfl) (Pa (Ql rfl rfl) (Ps (Ps (Qd (k2 (cS λ_ k3=>cS λ_ k4=>Qc ?_)))))))))))))))
 refine Pm (Pa (Yp rfl rfl) (Qd (k4 (Qi rfl (λhc19=>?_) (λhc19=>?_)))))
 have f0:D.down=true:=by cases hdn:D.down with|true=>rfl|false=>simp[hdn]at hc19
 have ho:D.open rs tail=(3,D):=by unfold DK.open;rw[if_pos f0]
 simp only[f0,ite_true]
 refine cS λ_ k6=>Qc (Pm (Ps (Ps (Qd (k6 (Qg (r_ (Er results56 [Xg bd u D,Xf u D] (by first|exact Hp.le_refl _|exact hR3) ?_))))))))
 rw[ho];exact⟨_,u,rfl,.inl ⟨rfl,(by decide:(3:Int)≠0),rfl⟩⟩
 have f0:D.down=false:=by cases hdn:D.down with|false=>rfl|true=>simp[hdn]at hc19
 simp only[f0,Bool.false_eq_true,ite_false]
 rw[<-hB]
 refine Qh (k3 (cS λ_ k7=>Qc (Pm (Pa (Xh (cells:=[_,_,_,_,_,_,_,_]) [(0,1),(1,1),(2,1),(3,1),(4,1),(5,1),(6,1),(7,1)] underlying111 zeroValue111 (λ_=>rfl) rfl rfl) (Xc (Qo rfl) rfl rfl rfl (λbl=>Ps (Qd (k7 (cS λ_ k8=>Qc (Ps (Qd (k8 (XN λK9 hK9=>?_)))))))))))))
 have hJ15:∀(x2:Value×Hp×Nat),R.le x2.2.1/\FrX entE x2.2.1 h.all x2.1/\x2.2.2+tail.length=B.length->EJ ⟨prog,88,σ⟩ K9 [(0,.pointer (some ⟨bd,0,none⟩)),(4,.string (Qs B)),(6,.pointer (some ⟨bl,0,none⟩)),(7,.int .i64 (x2.2.2:Int))] x2.2.1 (Xd bl (some ⟨bd,0,none⟩) x2.1 h::Xg bd u D::Xf u D::F):=by
   rintro⟨va,R3,good⟩ ⟨hR3,hva,hgood⟩
   try dsimp only
   dsimp only at hR3 hva hgood
   refine hK9 _ _ _ (cS λ_ k10=>cS λ_ k11=>Qc (Pm (Pm (Pa (YP underlying9 rfl) (Pa (QR rfl rfl) (Qd (k11 (cE [0,4,6,7,78] (Qi rfl (λhc78=>?_) (λhc78=>?_))))))))))
   have f5:¬tail=[]:=by rintro rfl;(try simp at hc78);simp at hgood;omega
   have f6:B.take good=Xr rs:=by rw[hB,hb]at hgood|-;rw[List.length_append]at hgood;rw[List.take_append_of_le_length Om,List.take_of_length_le Om]
   have f7:D.open rs tail=D.swap (Xr rs):=by unfold DK.open;rw[if_neg (by simp[f0]),if_neg f5]
   have f8:(Xr rs).length<=900000000:=by rw[<-f6,List.length_take];omega
   refine cS λ_ k13=>Qc (Pm (Pm (Pm ?_)))
   refine Pa ((Yld.to (u:=.string (Qs (Xr rs))) (fC underlying9 rfl rfl Om) (by rw[<-f6];rfl))) (Ra call84 (vy bd u D m hD (Xr rs) Om) ?_)
   rintro x R6 L' hR6 ⟨rfl,rfl,u2,rfl⟩
   try simp only[cB]
   refine Ps (Qd (k13 (cS λ_ k14=>Qc ?_)))
   refine Pm (Pa (Yp rfl rfl) (Qd (k14 (Qi rfl (λhc85=>?_) (λhc85=>?_)))))
   have f9:¬(D.swap (Xr rs)).1=0:=by simpa using hc85
   refine cS λ_ k16=>Qc (Pm (Ps (Ps (Qd (k16 (Qg (r_ (Er results56 [Xg bd u2 (D.swap (Xr rs)).2,Xf u2 (D.swap (Xr rs)).2] (by first|exact Hp.le_refl _|exact hR3) ?_))))))))
   rw[f7];exact⟨_,u2,rfl,.inl ⟨rfl,f9,rfl⟩⟩
   have f9:(D.swap (Xr rs)).1=0:=by simpa using hc85
   refine Qh (k10 (cS λ_ k17=>Qc (Pm (Ps (Ps (Qd (k17 (Qg (r_ (Er results56 [Xd bl (some ⟨bd,0,none⟩) va h,Xg bd u2 (D.swap (Xr rs)).2,Xf u2 (D.swap (Xr rs)).2] (by first|exact Hp.le_refl _|exact hR3) ?_))))))))))
   rw[f7];refine⟨_,u2,by rw[f9],.inr ⟨bl,va,rfl,f9,hva,rfl⟩⟩
   have f5:tail=[]:=by(try simp at hc78);exact List.eq_nil_of_length_eq_zero Om
   have f7:D.open rs tail=(0,D):=by unfold DK.open;rw[if_neg (by simp[f0]),if_pos f5]
   refine Qh (k10 (cS λ_ k18=>Qc (Pm (Ps (Ps (Qd (k18 (Qg (r_ (Er results56 [Xd bl (some ⟨bd,0,none⟩) va h,Xg bd u D,Xf u D] (by first|exact Hp.le_refl _|exact hR3) ?_))))))))))
   rw[f7];exact⟨_,u,rfl,.inr ⟨bl,va,rfl,rfl,hva,rfl⟩⟩
 refine cS λ_ k19=>Qc (Pm (Ps (Qd (k19 (Qp (Lp (λ(x1:LG×List Rec×Value×Hp×Bs×Nat)=>[(0,.pointer (some ⟨bd,0,none⟩)),(4,.string (Qs B)),(6,.pointer (some ⟨bl,0,none⟩)),(7,.int .i64 (x1.2.2.2.2.2:Int)),(8,.string (Qs x1.2.2.2.2.1))]) (λx1=>x1.2.2.2.1) (λx1=>Xd bl (some ⟨bd,0,none⟩) x1.2.2.1 x1.1::Xg bd u D::Xf u D::F) (λx1=>Plays x1.1 x1.2.1 h/\x1.2.2.2.2.1=Xr x1.2.1++tail/\FrX entE x1.2.2.2.1 x1.1.all x1.2.2.1/\R.le x1.2.2.2.1/\x1.2.2.2.2.2+x1.2.2.2.2.1.length=B.length) (λx1=>x1.2.2.2.2.1.length) (LG.new,rs,.slice none 0 0,R,B,0) (⟨hp,by rw[hB];exact hb,FrX.nil,Hp.le_refl _,by simp⟩) ?_))))))
 rintro⟨g,rs2,va,R3,rest,good⟩ ⟨hpl,hrest,hva,hR3,hgood⟩
 try dsimp only
 dsimp only at hpl hrest hva hR3 hgood
 refine cS λ_ k20=>cS λ_ k21=>Qc (Pm (Pa (YP underlying9 rfl) (Pa (ZP rfl rfl) (Qd (k21 (Qi rfl (λhc27=>?_) (λhc27=>?_)))))))
 try simp only[dx]at hc27
 refine Qh (k20 (cE [0,4,6,7,8] (Qp (cS λ_ k23=>dW ?_))))
 have hrl:4<=rest.length:=by(try simp at hc27);omega
 refine Qa (Qf rfl) ?_
 refine Qa ((Zg underlying9 rfl rfl (by constructor;decide;omega))) ?_
 refine Qa ((XE underlying5 underlying3 rfl (by have:=ji rest 0;(simp only[IntKind.min,IntKind.max,IntKind.signed,IntKind.bits,Bool.false_eq_true,ite_false,ite_true];omega)))) ?_
 refine Qa ((j9 rfl rfl Dc)) (Qa (Qf rfl) ?_)
 refine Qa ((Zg underlying9 rfl rfl (by constructor;decide;omega))) ?_
 refine Qa ((XE underlying5 underlying3 rfl (by have:=ji rest 1;(simp only[IntKind.min,IntKind.max,IntKind.signed,IntKind.bits,Bool.false_eq_true,ite_false,ite_true];omega)))) ?_
 refine Qa ((j9 rfl rfl Dc)) (Qa (kY rfl rfl) (Qa (Qf rfl) ?_))
 refine Qa ((Zg underlying9 rfl rfl (by constructor;decide;omega))) ?_
 refine Qa ((XE underlying5 underlying3 rfl (by have:=ji rest 2;(simp only[IntKind.min,IntKind.max,IntKind.signed,IntKind.bits,Bool.false_eq_true,ite_false,ite_true];omega)))) ?_
 refine Qa ((j9 rfl rfl Dc)) (Qa (kY rfl rfl) (Qa (Qf rfl) ?_))
 refine Qa ((Zg underlying9 rfl rfl (by constructor;decide;omega))) ?_
 refine Qa ((XE underlying5 underlying3 rfl (by have:=ji rest 3;(simp only[IntKind.min,IntKind.max,IntKind.signed,IntKind.bits,Bool.false_eq_true,ite_false,ite_true];omega)))) ?_
 refine Qa ((Yld.to (kY rfl rfl) (u:=.int .i64 ((jK rest:Nat):Int)) (by rw[EV]))) (Qa (Xs rfl) (Xj (k23 ?_)))
 refine cE [0,4,6,7,8,9] ?_
 refine cS λ_ k24=>cS λ_ k25=>Qc (Pm (Pm (Pa (YP underlying9 rfl) ?_)))
 refine Pa (Zs rfl rfl Qu) (Pa (XG rfl rfl) (Qd (k25 (Qi rfl (λhc50=>?_) (λhc50=>?_)))))
 obtain rfl:rs2=[]:=oB hpl hrest (.inr (by(try simp at hc50);omega))
 obtain rfl:=mC hpl
 have hfin:R.le R3/\FrX entE R3 g.all va/\good+tail.length=B.length:=⟨hR3,hva,by rw[hrest]at hgood;simpa[Xr]using hgood⟩
 refine QG (Jn hJ15 ((va,R3,good)) (hfin))
 have hn:jK rest<=rest.length-4:=by(try simp at hc50);omega
 obtain⟨r,rs3,rfl,h1,h2,h3,h4⟩:=vO hpl hrest ht hrl hn
 have e1:rest=cG (wr r.nd).length++(wr r.nd++(Xr rs3++tail)):=by rw[hrest,qT,Rec.bytes];simp
 have e2:jK rest=(wr r.nd).length:=by rw[e1,g8 Om]
 have e4:(rest.drop 4).take (wr r.nd).length=wr r.nd:=by rw[e1];simp[cG]
 have hdrop:rest.drop (4+(wr r.nd).length)=Xr rs3++tail:=by rw[<-List.drop_drop,e1];simp[cG]
 rw[e2]
 refine Qh (k24 (cS λ_ k27=>Qc (Pm (Pm ?_))))
 refine Pa ((Qz rfl rfl Om)) (Pa ((Yld.to (u:=.string (Qs (wr r.nd))) (md underlying9 rfl rfl rfl Om) (by congr 2;refine Eq.trans ?_ e4;congr 1;omega))) ?_)
 refine Ra call82 (D0 (wr r.nd) (by unfold big;omega)) ?_
 rintro x R4 L' hR4 ⟨cy,rfl,hrep,rfl⟩
 rw[Rec.read h2 h1 h3]at hrep|-
 obtain⟨k0,n0,s0,l0,q0,cap0,_,rfl,_,_⟩:=hrep.inv
 replace hrep:RepN R4 r.nd _:=hrep
 try simp only[cB]
 refine Pm (Pa (Ql rfl rfl) (Pa (Ql rfl rfl) (QC (Qo rfl) rfl zeroValue150 rfl (λb10=>Sm (vs:=[.int .i64 k0,.int .u64 ((n0:Nat):Int),.string (Qs s0),.slice q0 l0.length cap0]) QF (yI hrep) ?_))))
 refine Ps (Qd (k27 (cS λ_ k28=>cS λ_ k29=>Qc ?_)))
 refine Pm ?_
 refine Pa (Xa rfl) (Pm (Pb (Qf rfl) ?_))
 refine Pb (Lb QF) (XW (cP rfl rfl rfl rfl) rfl call83 rfl (xL bl (some ⟨bd,0,none⟩) va g r h1 h2 (hva.mono hR4) _ hrep) Za (λ_ _ _ _ h=>h.elim) ?_)
 rintro x R5 L' hR5 ⟨rfl,va4,hva4,rfl⟩
 try simp only[cB]
 refine Pb (Xa rfl) (Pa (Qn rfl rfl) (Qd (k29 (cE [0,4,6,7,8,9,66] ?_))))
 refine Qt rfl (Qh (k28 (cS λ_ k30=>Qc (Pm (Pm ?_)))))
 refine Pa (Qz rfl rfl Qu) (Pa ((Yld.to (u:=.string (Qs (rest.drop (4+(wr r.nd).length)))) (fB underlying9 rfl rfl Om) (by congr 2))) (Ps (Qd (k30 (Qc (Pm (Pm ?_)))))))
 refine Pa (Qz rfl rfl Qu) ?_
 refine Pa (Qz rfl rfl Qu) (Ps (Qd (ro rfl (rd ((g.play r,rs3,va4,R5,rest.drop (4+(wr r.nd).length),good+(4+(wr r.nd).length))) (⟨h4,hdrop,hva4,Hp.le_trans hR3 (Hp.le_trans hR4 hR5),by dsimp only;rw[List.length_drop];omega⟩) (by dsimp only;rw[List.length_drop];omega)))))
 obtain rfl:rs2=[]:=oB hpl hrest (.inl (by(try simp at hc27);omega))
 obtain rfl:=mC hpl
 have hfin:R.le R3/\FrX entE R3 g.all va/\good+tail.length=B.length:=⟨hR3,hva,by rw[hrest]at hgood;simpa[Xr]using hgood⟩
 refine QG (Jn hJ15 ((va,R3,good)) (hfin))
theorem LG.at_i(g:LG)(h:g.all[i]?=some e):g.at (g.base+1+i)=some e:=by
 have hi:i<g.all.length:=(List.getElem?_eq_some_iff.1 h).1
 unfold LG.at LG.last
 rw[if_pos Om,show(g.base+1+(i:Int)-g.base-1).toNat=i by omega,h]
def LD(n:Nat)(g:LG)(D:DK):Prop:=D.down=false/\D.bound=false/\D.sure=D.b.length/\(-9223372036854775808<=D.fuel/\D.fuel<=9223372036854775807)/\g.down=false/\D.b.length<=n/\∃rs,D.b=Xr rs/\Plays LG.new rs g
theorem cW(g:LG)(r:Rec):(g.play r).down=g.down:=by cases r<;>rfl
theorem LD.put{n:Nat}{g:LG}{D:DK}(h:LD n g D){r:Rec}{k:Nat}(hm:r.may g)(hl:(wr r.nd).length<=k)(hk:k<=16777216)(ho:(g.play r).ok):(D.put r.bytes).1=0/\LD (n+4+k) (g.play r) (D.put r.bytes).2:=by
 obtain⟨h1,h2,h3,h4,h5,h6,rs,h7,h8⟩:=h
 have e1:D.step=(true,D):=by unfold DK.step;simp[h1,h2]
 have e2:D.append r.bytes=(0,{D with b:=D.b++r.bytes}):=by unfold DK.append;rw[e1];rfl
 have e3:D.put r.bytes=(0,{D with b:=D.b++r.bytes,sure:=(D.b++r.bytes).length}):=by
  unfold DK.put
  rw[e2]
  simp only[ite_true]
  unfold DK.sync
  have:DK.step {D with b:=D.b++r.bytes}=(true,{D with b:=D.b++r.bytes}):=by unfold DK.step;simp[h1,h2]
  rw[this];rfl
 rw[e3]
 refine⟨rfl,h1,h2,rfl,h4,by rw[cW];exact h5,?_,rs++[r],by rw[eH,<-h7],h8.snoc hm Om ho⟩
 show(D.b++r.bytes).length<=_
 rw[List.length_append,Rec.bytes,List.length_append,Zh];omega
def LG.comp(g:LG)(i:Int)(s:Bs):LG:={g with baseT:=(g.termAt i).getD 0,all:=g.all.drop (i-g.base).toNat,base:=i,state:=s}
def LG.base0(g:LG)(i t:Int)(s:Bs):LG:={g with all:=[],base:=i,baseT:=t,state:=s}
def LG.swapD(g:LG)(D:DK)(to:LG):Int×LG×DK:=
 if(D.swap (Rec.all to).bytes).1=0 then(0,to,(D.swap (Rec.all to).bytes).2)else((D.swap (Rec.all to).bytes).1,{g with down:=true},(D.swap (Rec.all to).bytes).2)
def LG.compD(g:LG)(D:DK)(i:Int)(s:Bs):Int×LG×DK:=
 if(g.down||D.down)=true then(3,g,D)else if i<g.base\/i>g.last then(1,g,D)else g.swapD D (g.comp i s)
def LG.instD(g:LG)(D:DK)(i t:Int)(s:Bs):Int×LG×DK:=
 if(g.down||D.down)=true then(3,g,D)else if i<g.base\/(i=g.base/\¬t=g.baseT)then(1,g,D)
 else if g.termAt i=some t then g.compD D i s else g.swapD D (g.base0 i t s)
theorem F3(R:Hp):Kids R [] []:=⟨rfl,λi x cs h _=>by simp at h⟩
theorem eU{c:List Value}(h:RepN R x c)(k:Kids R ks css):Kids R (x::ks) (c::css):=by
 refine⟨by simp[k.1],λi y cs h1 h2=>?_⟩
 cases i with
 |zero=>cases h1;cases h2;exact h
 |succ i=>exact k.2 i y cs (by simpa using h1) (by simpa using h2)
theorem lM{d:Option Addr}(g:LG)(hv:v.oneCell'=true):∀u∈qd d v g,u.oneCell'=true:=by
 intro u hu
 simp only[qd,List.mem_cons,List.not_mem_nil,or_false]at hu
 rcases hu with rfl|rfl|rfl|rfl|rfl|rfl|rfl|rfl<;>first|rfl|assumption
theorem pg(b bd:Nat)(va u vt:Value)(g to:LG)(D:DK)(n:Nat)(hva:va.oneCell'=true)(ht:to.ok)(hvt:FrX entE R to.all vt)(hl:(wr (Rec.all to).nd).length<=16777216)(hD:D.ok n):
  Tri prog 102 [.pointer (some ⟨b,0,none⟩),.agg ⟨qd (some ⟨bd,0,none⟩) vt to⟩] R [Xd b (some ⟨bd,0,none⟩) va g,Xg bd u D,Xf u D]
   (λx R' L'=>x=.int .i64 (g.swapD D to).1/\∃u',L'=[Xd b (some ⟨bd,0,none⟩) (if(g.swapD D to).1=0 then vt else va) (g.swapD D to).2.1,Xg bd u' (g.swapD D to).2.2,Xf u' (g.swapD D to).2.2]):=by
 have hb:=ht.base
 have hv:=ht.vote
 have hst:=ht.state
 have hu2:QQ 2:=by unfold QQ;omega
 have hv1:QQ (to.vote+1):=by unfold QQ;omega
 have hbb:QQ to.base:=by unfold QQ;omega
 have hmay:(Rec.all to).may g:=ht
 have hok:OkN (Rec.all to).nd:=.mk Dc (Rec.kids_ok (g:=LG.new) (r:=.all to) ht LG.new_ok)
 have hbl:(Rec.all to).bytes.length<=16777220:=by unfold Rec.bytes;simp[Zh];omega
 have hvto:=hvt.one
 obtain⟨qt,ct,rfl,hq1,hq2⟩:=hvt.shape
 unfold Xd qd
 refine To func102 ntmps102 λσ F _ r_ _ _=>?_
 try simp only[cB]
 refine cS λ_ k1=>Qc (Xc (Qo rfl) rfl rfl rfl (λb3=>Ps (Qd (k1 (cS λ_ k2=>C5 (L:=[QA b3 [.pointer (some ⟨bd,0,none⟩),.bool to.down,.int .u64 to.term,.int .i64 to.vote,.int .u64 to.base,.int .u64 to.baseT,.string (Qs to.state),.slice qt to.all.length ct] 111]) [0,1,2,3,4,5,6,7,8,9,10,11,12,13,14,15,16,17,18,19] [] [20,21,22,23,24,25,26,27] _ Qw Kr Kr ?_)))))
 refine Wc rfl (Ca call95 (yC _)) ?_
 refine Wc rfl (Ga underlying111 sizeOf36) ?_
 refine Wc rfl (La QO) ?_
 refine Wc rfl (Ca call95 (yC _)) ?_
 refine Wc rfl (Ga underlying111 sizeOf3) ?_
 refine Wc rfl (La o3) ?_
 refine Wc rfl (Qz rfl rfl Om) ?_
 refine Wc rfl (XE underlying3 underlying36 rfl (by(simp only[IntKind.min,IntKind.max,IntKind.signed,IntKind.bits,Bool.false_eq_true,ite_false,ite_true];omega))) ?_
 refine Wc rfl (Ca call95 (yC _)) ?_
 refine Wc rfl (Ga underlying111 sizeOf36) ?_
 refine Wc rfl (La QO) ?_
 refine Wc rfl (Ca call95 (yC _)) ?_
 refine Wc rfl (Ga underlying111 sizeOf36) ?_
 refine Wc rfl (La QO) ?_
 refine Wc rfl (Ca call95 (yC _)) ?_
 refine Wc rfl (Ga underlying111 sizeOf9) ?_
 refine Wc rfl (La o9) ?_
 refine Wc rfl (Ca call114 (oQ _)) ?_
 refine Wc rfl (Ga underlying111 sizeOf76) ?_
 refine Wc rfl (La zG) (Xq (Xt ?_))
 try simp only[cC]
 refine dD (rs:=[20]) Kr Dc ⟨⟨_,rfl,?_⟩,trivial⟩
 refine Ra call108 (wv to.all _ hvt ht.all ht.alln) ?_
 rintro r R2 L' hR2 ⟨⟨cy,rfl,hrep⟩,rfl⟩
 have hrep2:=hrep
 obtain⟨k0,n0,s0,l0,q0,cap0,_,rfl,_,_⟩:=hrep2.inv
 try simp only[cB]
 refine gO (dD (rs:=[21]) Kr Dc ⟨⟨_,rfl,?_⟩,trivial⟩)
 refine Qv (sz:=4) (Qo rfl) rfl underlying148 sizeOf150 zeroValue150 rfl rfl rfl Dc Dc (λbk=>gO (dD (rs:=[22]) Kr Dc ⟨⟨_,rfl,?_⟩,trivial⟩))
 refine Ra call111 (oF (.slice (some ⟨bk,0,none⟩) 7 7) (Rec.all to).kids [[.int .i64 0,.int .u64 2,.string (Qs []),.slice none 0 0],[.int .i64 0,.int .u64 to.term,.string (Qs []),.slice none 0 0],[.int .i64 0,.int .u64 (to.vote+1),.string (Qs []),.slice none 0 0],[.int .i64 0,.int .u64 to.base,.string (Qs []),.slice none 0 0],[.int .i64 0,.int .u64 to.baseT,.string (Qs []),.slice none 0 0],[.int .i64 1,.int .u64 0,.string (Qs to.state),.slice none 0 0],[.int .i64 k0,.int .u64 n0,.string (Qs s0),.slice q0 l0.length cap0]] (eU (yj hu2) (eU (yj ht.term) (eU (yj hv1) (eU (yj hbb) (eU (yj ht.baseT) (eU (se (by unfold big;omega)) (eU hrep (F3 _)))))))) (by simp[Rec.kids]) hok (Rec.write _ hl) hl) ?_
 rintro x R3 L' hR3 ⟨rfl,rfl⟩
 rw[show cG (wr (Nd.mk 2 0 [] (Rec.all to).kids)).length++wr (Nd.mk 2 0 [] (Rec.all to).kids)=(Rec.all to).bytes from rfl]
 try simp only[cB]
 refine gO (dD (rs:=[23]) Kr Dc ⟨⟨_,rfl,?_⟩,trivial⟩)
 refine Pm (gO (rZ (i:=24) rfl rfl rfl Kr Kr Kr (Qo rfl) rfl (λσ=>(Ql rfl rfl)) (rZ (i:=25) rfl rfl rfl Kr Kr Kr (Qo rfl) rfl (λσ=>(Ql rfl rfl)) (dD (rs:=[26]) Kr Dc ⟨⟨_,rfl,?_⟩,trivial⟩))))
 refine Ps (gO (dD (rs:=[27]) Kr Dc ⟨⟨_,rfl,?_⟩,trivial⟩))
 refine Ps (gO (BD Kr (k2 (cE [0,3,5,6] ?_))))
 refine cS λ_ k3=>cS λ_ k4=>Qc (Pm (Pa (Xa rfl) (Qd (k4 (Qt rfl (Qh (k3 (cS λ_ k5=>cS λ_ k6=>Qc ?_))))))))
 refine Pm (Pa (Qe rfl) (Pa (Ga underlying111 sizeOf83) ?_))
 refine Pa (La oP) (Pm (Ra call84 (vy bd u D n hD (Rec.all to).bytes Om) ?_))
 rintro x R4 L' hR4 ⟨rfl,rfl,u2,rfl⟩
 try simp only[cB]
 refine Ps (Qd (k6 (cS λ_ k7=>Qc ?_)))
 refine Pm (Pa (Yp rfl rfl) (Qd (k7 (Qi rfl (λhc43=>?_) (λhc43=>?_)))))
 have f2:¬(D.swap (Rec.all to).bytes).1=0:=by simpa using hc43
 have f3:g.swapD D to=((D.swap (Rec.all to).bytes).1,{g with down:=true},(D.swap (Rec.all to).bytes).2):=by unfold LG.swapD;rw[if_neg f2]
 refine cS λ_ k9=>Qc (Pm (Pa (Qe rfl) (Pa (Ga underlying111 sizeOf4) ?_)))
 refine Sa o4 ?_
 refine Qd (k9 (cS λ_ k10=>Qc (Pm (Ps (Qd (k10 (Qg (r_ (Er results102 [Xd b (some ⟨bd,0,none⟩) va {g with down:=true},Xg bd u2 (D.swap (Rec.all to).bytes).2,Xf u2 (D.swap (Rec.all to).bytes).2] (by first|exact Hp.le_trans hR2 hR3|exact hRz) ?_)))))))))
 rw[f3];exact⟨rfl,u2,by rw[if_neg f2];rfl⟩
 have f2:(D.swap (Rec.all to).bytes).1=0:=by simpa using hc43
 have f3:g.swapD D to=(0,to,(D.swap (Rec.all to).bytes).2):=by unfold LG.swapD;rw[if_pos f2]
 refine Qh (k5 (cS λ_ k11=>Qc (Pm (Pa ((Lm (vs:=qd (some ⟨bd,0,none⟩) (.slice qt to.all.length ct) to) gm)) (Pa (Qe rfl) ?_)))))
 refine Sm (vs:=qd (some ⟨bd,0,none⟩) (.slice qt to.all.length ct) to) gm (lM to rfl) ?_
 refine Qd (k11 (cE [] (cS λ_ k12=>Qc (Ps (Qd (k12 (Qg (r_ (Er results102 [Xd b (some ⟨bd,0,none⟩) (.slice qt to.all.length ct) to,Xg bd u2 (D.swap (Rec.all to).bytes).2,Xf u2 (D.swap (Rec.all to).bytes).2] (by first|exact Hp.le_trans hR2 hR3|exact hRz) ?_)))))))))
 rw[f3];exact⟨rfl,u2,by rw[if_pos rfl];rfl⟩
theorem gR(o:Option Int):x' o=QI [.int .u64 (o.getD 0),.bool o.isSome]:=by cases o<;>rfl
theorem rJ(l m:List Qy):Yc (l++m)=Yc l+Yc m:=by simp[Yc]
theorem pL(l:List Qy)(k:Nat):Yc (l.drop k)<=Yc l:=by
 have:=rJ (l.take k) (l.drop k)
 rw[List.take_append_drop]at this;omega
theorem LG.at_mem{i:Int}(h:g.at i=some e):e∈g.all:=by
 unfold LG.at at h
 split at h
 ·exact List.mem_of_getElem? h
 ·cases h
theorem LG.termAt_b(hg:g.ok)(i:Int):QQ ((g.termAt i).getD 0):=by
 unfold LG.termAt
 split
 ·exact hg.baseT
 ·cases h:g.at i with
  |none=>simp[QQ]
  |some e=>exact(hg.all e (LG.at_mem h)).1
theorem LG.comp_ok(hg:g.ok){i:Int}{s:Bs}(hi:g.base<=i/\i<=1000000000000000)(hs:s.length<=1000000):(g.comp i s).ok:=
 ⟨hg.term,hg.vote,⟨by have:=hg.base;show 0<=i;omega,hi.2⟩,LG.termAt_b hg i,hs,by show(g.all.drop _).length<=_;have:=hg.alln;simp;omega,λe he=>hg.all e (List.mem_of_mem_drop he)⟩
theorem LG.base0_ok(hg:g.ok){i t:Int}{s:Bs}(hi:0<=i/\i<=1000000000000000)(ht:QQ t)(hs:s.length<=1000000):(g.base0 i t s).ok:=
 ⟨hg.term,hg.vote,hi,ht,hs,by show(0:Nat)<=_;omega,λe he=>by cases he⟩
theorem n6{to:LG}{va vt:Value}(h1:FrX entE R g.all va)(h2:FrX entE R to.all vt):FrX entE R (g.swapD D to).2.1.all (if(g.swapD D to).1=0 then vt else va):=by
 unfold LG.swapD
 by_cases h:(D.swap (Rec.all to).bytes).1=0
 ·simp only[if_pos h,ite_true];exact h2
 ·simp only[if_neg h];exact h1
theorem io(b bd:Nat)(va u:Value)(g:LG)(D:DK)(n:Nat)(i:Int)(s:Bs)(hg:g.ok)(hi:QQ i)(hva:FrX entE R g.all va)(hs:s.length<=1000000)(hE:Yc g.all<=15000000)(hL:g.last<=1000000000000000)(hD:D.ok n):
  Tri prog 80 [.pointer (some ⟨b,0,none⟩),.int .u64 i,.string (Qs s)] R [Xd b (some ⟨bd,0,none⟩) va g,Xg bd u D,Xf u D]
   (λx R' L'=>x=.int .i64 (g.compD D i s).1/\∃u' va',FrX entE R' (g.compD D i s).2.1.all va'/\L'=[Xd b (some ⟨bd,0,none⟩) va' (g.compD D i s).2.1,Xg bd u' (g.compD D i s).2.2,Xf u' (g.compD D i s).2.2]):=by
 have hdq:=jS (R:=R) b bd va u g D
 have hlq:=Zq (R:=R) b (some ⟨bd,0,none⟩) va g hg hva
 have htq:=aR (R:=R) b (some ⟨bd,0,none⟩) va g hg hva i hi
 have hva0:=hva
 have hb:=hg.base
 have hn:=hg.alln
 have hle:g.last=g.base+g.all.length:=rfl
 obtain⟨q,cap,rfl,hq1,hq2⟩:=hva.shape
 refine To func80 ntmps80 λ_ F _ r_ _ _=>?_
 try simp only[cB]
 unfold Xd qd at hdq hlq htq|-
 refine cS λ_ k1=>Qc (Ps (Qd (k1 (cS λ_ k2=>Qp (cS λ_ k3=>Qc (Pm (Pa (Ca call59 (hdq)) (Ps (Qd (k3 (Qi rfl (λhc8=>?_) (λhc8=>?_))))))))))))
 have f0:(g.down||D.down)=true:=hc8
 refine cS λ_ k5=>Qc (Ps (Qd (k5 (Qg (r_ (Er results80 [Xd b (some ⟨bd,0,none⟩) (.slice q g.all.length cap) g,Xg bd u D,Xf u D] (by first|exact Hp.le_refl _|exact Hp.le_trans hR3 hR4) ?_))))))
 rw[show g.compD D i s=(3,g,D)by unfold LG.compD;rw[if_pos f0]];exact⟨rfl,u,_,hva0,rfl⟩
 have f0:¬(g.down||D.down)=true:=by simpa using hc8
 obtain⟨f01,f02⟩:g.down=false/\D.down=false:=by simpa using f0
 refine cS λ_ k6=>Qc (Pm (Pm (Pa (Qe rfl) (Pa (Ga underlying111 sizeOf36) ?_))))
 refine Pa (La QO) (Pa (QR rfl rfl) (Pm (QM 18 rfl (λhg18=>?_) (λhg18=>?_))))
 have f1:i<g.base\/i>g.last:=.inl (by simpa using hg18)
 refine Pk (Pk (Pk (Pk (Pa (Qq rfl rfl) (Ps (Qd (k6 (cE [0,1,2,11] (QD rfl (cS λ_ k7=>Qc (Ps (Qd (k7 (Qg (r_ (Er results80 [Xd b (some ⟨bd,0,none⟩) (.slice q g.all.length cap) g,Xg bd u D,Xf u D] (by first|exact Hp.le_refl _|exact Hp.le_trans hR3 hR4) ?_))))))))))))))))
 rw[show g.compD D i s=(1,g,D)by unfold LG.compD;rw[if_neg f0,if_pos f1]];exact⟨rfl,u,_,hva0,rfl⟩
 have f10:¬i<g.base:=by simpa using hg18
 refine Pb (Qf rfl) (Pb (Qf rfl) (Pb (Ca call60 (hlq)) (Pb (XG rfl rfl) (Pa (Qn rfl rfl) (Ps (Qd (k6 (Qi rfl (λhc11=>?_) (λhc11=>?_)))))))))
 first|have f1:i<g.base\/i>g.last:=.inr (by simpa using hc11)|skip
 refine cS λ_ k9=>Qc (Ps (Qd (k9 (Qg (r_ (Er results80 [Xd b (some ⟨bd,0,none⟩) (.slice q g.all.length cap) g,Xg bd u D,Xf u D] (by first|exact Hp.le_refl _|exact Hp.le_trans hR3 hR4) ?_))))))
 rw[show g.compD D i s=(1,g,D)by unfold LG.compD;rw[if_neg f0,if_pos f1]];exact⟨rfl,u,_,hva0,rfl⟩
 have f1:¬(i<g.base\/i>g.last):=by(try simp at hc11);omega
 refine Qh (k2 (cS λ_ k10=>Qc ?_))
 obtain⟨k,hk⟩:∃k:Nat,i-g.base=k:=⟨(i-g.base).toNat,by omega⟩
 have hsub:=hva0.sub (a:=k) (b:=g.all.length) Om Om
 have hkd:(g.all.drop k).take (g.all.length-k)=g.all.drop k:=by rw[List.take_of_length_le Si]
 rw[hkd]at hsub
 have hcD:g.compD D i s=g.swapD D (g.comp i s):=by unfold LG.compD;rw[if_neg f0,if_neg f1]
 have hcall:(g.comp i s).all=g.all.drop k:=by unfold LG.comp;simp[hk]
 have hcok:=LG.comp_ok hg (i:=i) (s:=s) ⟨by omega,by omega⟩ hs
 have hwl:(wr (Rec.all (g.comp i s)).nd).length<=16777216:=by have h1:=Rec.len_all hcok;have h2:=pL g.all k;rw[hcall]at h1;have h3:(g.comp i s).state.length=s.length:=rfl;omega
 refine Pm (Pa (Qe rfl) (Pa ((Lm (vs:=qd (some ⟨bd,0,none⟩) (.slice q g.all.length cap) g) gm)) (QC (Qo rfl) rfl zeroValue111 rfl (λb7=>?_))))
 refine Sm (vs:=[.pointer (some ⟨bd,0,none⟩),.bool g.down,.int .u64 g.term,.int .i64 g.vote,.int .u64 g.base,.int .u64 g.baseT,.string (Qs g.state),.slice q g.all.length cap]) gm (lM g rfl) (Qd (k10 (cS λ_ k11=>Qc (Pm (Pm ?_)))))
 refine Pa (Ca call100 (htq)) (Pm (Xx 27 rfl (v':=QI [.int .u64 ((g.termAt i).getD 0),.bool (g.termAt i).isSome]) (gR _) (Pa (Ql rfl rfl) (Pa (Ql rfl rfl) (Pa (Ga underlying111 sizeOf36) ?_)))))
 refine Sa QO (Qd (k11 (cE [0,1,2,7] (cS λ_ k12=>?_))))
 refine mG (L:=[QA b [.pointer (some ⟨bd,0,none⟩),.bool g.down,.int .u64 g.term,.int .i64 g.vote,.int .u64 g.base,.int .u64 g.baseT,.string (Qs g.state),.slice q g.all.length cap] 111]) [0,1,2,3,4,5,6,7,8,9,10,12,13] [11,14,15,16,17] [18,19] ?_
 refine Wc rfl (Qf rfl) ?_
 refine Wc rfl (Qe rfl) ?_
 refine Wc rfl (Ga underlying111 sizeOf76) ?_
 refine Wc rfl (La zG) ?_
 refine Wc rfl (Qf rfl) ?_
 refine Wc rfl (Qf rfl) ?_
 refine Wc rfl (Qe rfl) ?_
 refine Wc rfl (Ga underlying111 sizeOf36) ?_
 refine Wc rfl (La QO) ?_
 refine Wc rfl (Yld.to (u:=.int .u64 (k:Int)) (yg rfl rfl Om) (by rw[hk])) ?_
 refine Wc rfl (qu (l:=k) (h:=g.all.length) underlying76 sizeOf93 rfl ⟨.u64,rfl⟩ rfl Om) ?_
 refine Wc rfl (Qf rfl) ?_
 refine Wc rfl (Qf rfl) (Xq (QT rfl ?_))
 try simp only[cC]
 refine Ra call101 (pO (g.all.drop k) _ hsub (by simp;omega)) ?_
 rintro r R2 L' hR2 ⟨rfl,hro,rfl⟩
 try simp only[cB]
 refine QU QB Qw (QT rfl ?_)
 try simp only[cC]
 refine Pa (Ga underlying111 sizeOf76) (QU QB Qw (QT rfl ?_))
 try simp only[cC]
 refine Sa zG ?_
 refine QU QB Qw (QT rfl ?_)
 try simp only[cC]
 refine Pa (Ga underlying111 sizeOf36) (QU QB Qw (QT rfl ?_))
 try simp only[cC]
 refine Sa QO ?_
 refine QU QB Qw (Xt ?_)
 try simp only[cC]
 refine Pa (Ga underlying111 sizeOf9) (Sa o9 ?_)
 refine YC (e:=93) (sz:=2) (n:=(g.all.drop k).length) (v:=r) (xs:=Zp (g.all.drop k)) Qm (λR3 hR3 hfr hxl=>?_)
 have hfx:=gz hfr
 obtain⟨qf,cf,rfl,_,_⟩:=hfx.shape
 refine Qd (k12 (cS λ_ k13=>Qc (Pm (Pa ((Lm (vs:=qd (some ⟨bd,0,none⟩) (.slice qf (g.all.drop k).length cf) (g.comp i s)) gm)) (Ra call102 (pg b bd (.slice q g.all.length cap) u (.slice qf (g.all.drop k).length cf) g (g.comp i s) D n rfl hcok (by rw[hcall];exact hfx) hwl hD) ?_)))))
 rintro x R4 L' hR4 ⟨rfl,u2,rfl⟩
 unfold Xd qd
 try simp only[cB]
 refine Ps (Qd (k13 (cE [6] (Qg (r_ ?_)))))
 refine Er results80 [Xd b (some ⟨bd,0,none⟩) (if(g.swapD D (g.comp i s)).1=0 then .slice qf (g.all.drop k).length cf else .slice q g.all.length cap) (g.swapD D (g.comp i s)).2.1,Xg bd u2 (g.swapD D (g.comp i s)).2.2,Xf u2 (g.swapD D (g.comp i s)).2.2] (by first|exact Hp.le_refl _|exact Hp.le_trans hR3 hR4) ?_
 rw[hcD];exact⟨rfl,u2,_,n6 (hva0.mono (Hp.le_trans hR3 hR4)) (by rw[hcall];exact hfx.mono hR4),rfl⟩
theorem rE(b bd:Nat)(va u:Value)(g:LG)(D:DK)(n:Nat)(i t:Int)(s:Bs)(hg:g.ok)(hi:0<=i/\i<=1000000000000000)(ht:QQ t)(hva:FrX entE R g.all va)(hs:s.length<=1000000)(hE:Yc g.all<=15000000)(hL:g.last<=1000000000000000)(hD:D.ok n):
  Tri prog 99 [.pointer (some ⟨b,0,none⟩),.int .u64 i,.int .u64 t,.string (Qs s)] R [Xd b (some ⟨bd,0,none⟩) va g,Xg bd u D,Xf u D]
   (λx R' L'=>x=.int .i64 (g.instD D i t s).1/\∃u' va',FrX entE R' (g.instD D i t s).2.1.all va'/\L'=[Xd b (some ⟨bd,0,none⟩) va' (g.instD D i t s).2.1,Xg bd u' (g.instD D i t s).2.2,Xf u' (g.instD D i t s).2.2]):=by
 have hiu:QQ i:=by unfold QQ;omega
 have hdq:=jS (R:=R) b bd va u g D
 have htq:=aR (R:=R) b (some ⟨bd,0,none⟩) va g hg hva i hiu
 have hct:=io (R:=R) b bd va u g D n i s hg hiu hva hs hE hL hD
 have hva0:=hva
 have hb:=hg.base
 have hn:=hg.alln
 have hle:g.last=g.base+g.all.length:=rfl
 obtain⟨q,cap,rfl,hq1,hq2⟩:=hva.shape
 have hbok:=LG.base0_ok hg (i:=i) (t:=t) (s:=s) hi ht hs
 have hwl:(wr (Rec.all (g.base0 i t s)).nd).length<=16777216:=by have h1:=Rec.len_all hbok;have h2:Yc (g.base0 i t s).all=0:=rfl;have h3:(g.base0 i t s).state.length=s.length:=rfl;omega
 refine To func99 ntmps99 λσ F _ r_ _ _=>?_
 try simp only[cB]
 unfold Xd qd at hdq htq hct|-
 refine cS λ_ k1=>Qc (Ps (Qd (k1 (XN λK2 hK2=>?_))))
 have hJ5:∀(x5:Nat),¬(g.down||D.down)=true/\¬(i<g.base\/(i=g.base/\¬t=g.baseT))->EJ ⟨prog,67,σ⟩ K2 [(0,.pointer (some ⟨b,0,none⟩)),(1,.int .u64 i),(2,.int .u64 t),(3,.string (Qs s))] R (QA b [.pointer (some ⟨bd,0,none⟩),.bool g.down,.int .u64 g.term,.int .i64 g.vote,.int .u64 g.base,.int .u64 g.baseT,.string (Qs g.state),.slice q g.all.length cap] 111::Xg bd u D::Xf u D::F):=by
  rintro x5 ⟨f0,f1⟩
  try dsimp only
  refine hK2 _ _ _ (XN λK3 hK3=>?_)
  have hJ8:∀(x8:Nat),¬g.termAt i=some t->EJ ⟨prog,67,σ⟩ K3 [(0,.pointer (some ⟨b,0,none⟩)),(1,.int .u64 i),(2,.int .u64 t),(3,.string (Qs s))] R (QA b [.pointer (some ⟨bd,0,none⟩),.bool g.down,.int .u64 g.term,.int .i64 g.vote,.int .u64 g.base,.int .u64 g.baseT,.string (Qs g.state),.slice q g.all.length cap] 111::Xg bd u D::Xf u D::F):=by
   rintro x8 h2
   try dsimp only
   refine hK3 _ _ _ (cS λ_ k4=>Qc (Pm (Pa (Qe rfl) (Pa ((Lm (vs:=qd (some ⟨bd,0,none⟩) (.slice q g.all.length cap) g) gm)) (QC (Qo rfl) rfl zeroValue111 rfl (λb11=>Sm (vs:=[.pointer (some ⟨bd,0,none⟩),.bool g.down,.int .u64 g.term,.int .i64 g.vote,.int .u64 g.base,.int .u64 g.baseT,.string (Qs g.state),.slice q g.all.length cap]) gm (lM g rfl) (Qd (k4 (cS λ_ k5=>Qc (Pm (Pm (Pm (Pa (Ga underlying111 sizeOf76) ?_)))))))))))))
   refine Sa zG (Pa (Ga underlying111 sizeOf36) ?_)
   refine Sa QO (Pa (Ga underlying111 sizeOf36) ?_)
   refine Sa QO (Pa (Ga underlying111 sizeOf9) ?_)
   refine Sa o9 (Qd (k5 (cS λ_ k6=>Qc (Pm ?_))))
   refine Pa ((Lm (vs:=qd (some ⟨bd,0,none⟩) (.slice none 0 0) (g.base0 i t s)) gm)) (Ra call102 (pg b bd (.slice q g.all.length cap) u (.slice none 0 0) g (g.base0 i t s) D n rfl hbok FrX.nil hwl hD) ?_)
   rintro x R4 L' hR4 ⟨rfl,u2,rfl⟩
   unfold Xd qd
   have hiD:g.instD D i t s=g.swapD D (g.base0 i t s):=by unfold LG.instD;rw[if_neg f0,if_neg f1,if_neg h2]
   try simp only[cB]
   refine Ps (Qd (k6 (Qg (r_ (Er results99 [Xd b (some ⟨bd,0,none⟩) (if(g.swapD D (g.base0 i t s)).1=0 then .slice none 0 0 else .slice q g.all.length cap) (g.swapD D (g.base0 i t s)).2.1,Xg bd u2 (g.swapD D (g.base0 i t s)).2.2,Xf u2 (g.swapD D (g.base0 i t s)).2.2] (by first|exact Hp.le_refl _|exact hR4) ?_)))))
   rw[hiD];exact⟨rfl,u2,_,n6 (hva0.mono hR4) FrX.nil,rfl⟩
  refine cS λ_ k7=>Qc (Pm (Pm (Pa (Ca call100 (htq)) (Xx 41 rfl (v':=QI [.int .u64 ((g.termAt i).getD 0),.bool (g.termAt i).isSome]) (gR _) (Pm (Pa (Ql rfl rfl) (Pa (Ql rfl rfl) (Ps (Ps (Qd (k7 (cE [0,1,2,3,9,10] ?_))))))))))))
  refine cS λ_ k8=>Qc (Pm (Pm (QM 45 rfl (λhg45=>?_) (λhg45=>?_))))
  have h1:(g.termAt i).isSome=true:=hg45
  obtain⟨tt,htt⟩:=Option.isSome_iff_exists.1 h1
  rw[htt]
  refine Pb (Qf rfl) (Pb (Qf rfl) (Pb (QL rfl rfl) (Pa (Qq rfl rfl) (Qd (k8 (Qi rfl (λhc49=>?_) (λhc49=>?_)))))))
  first|have h2:g.termAt i=some t:=by rw[htt];simpa using hc49|skip
  refine cS λ_ k10=>Qc (Pm (Pm (Pm (Ra call80 (hct) ?_))))
  rintro x R4 L' hR4 ⟨rfl,u2,va2,hva2,rfl⟩
  have hiD:g.instD D i t s=g.compD D i s:=by unfold LG.instD;rw[if_neg f0,if_neg f1,if_pos h2]
  try simp only[cB]
  refine Ps (Qd (k10 (Qg (r_ (Er results99 [Xd b (some ⟨bd,0,none⟩) va2 (g.compD D i s).2.1,Xg bd u2 (g.compD D i s).2.2,Xf u2 (g.compD D i s).2.2] (by first|exact Hp.le_refl _|exact hR4) ?_)))))
  rw[hiD];exact⟨rfl,u2,va2,hva2,rfl⟩
  first|have h2:¬g.termAt i=some t:=by rw[htt];simpa using hc49|skip
  refine Qh (Jn hJ8 (0) (h2))
  have h1:g.termAt i=none:=by simpa using hg45
  have h2:¬g.termAt i=some t:=by rw[h1];simp
  refine Pk (Pk (Pk (Pa (Qn rfl rfl) (Qd (k8 (Qt rfl (Qh (Jn hJ8 (0) (h2)))))))))
 refine Qp (cS λ_ k11=>Qc (Pm (Pa (Ca call59 (hdq)) (Ps (Qd (k11 (Qi rfl (λhc12=>?_) (λhc12=>?_))))))))
 have f0:(g.down||D.down)=true:=hc12
 refine cS λ_ k13=>Qc (Ps (Qd (k13 (cE [8] (Qg (r_ ?_))))))
 refine Er results99 [Xd b (some ⟨bd,0,none⟩) (.slice q g.all.length cap) g,Xg bd u D,Xf u D] (by first|exact Hp.le_refl _|exact hR4) ?_
 rw[show g.instD D i t s=(3,g,D)by unfold LG.instD;rw[if_pos f0]];exact⟨rfl,u,_,hva0,rfl⟩
 have f0:¬(g.down||D.down)=true:=by simpa using hc12
 obtain⟨f01,f02⟩:g.down=false/\D.down=false:=by simpa using f0
 refine cS λ_ k14=>Qc (Pm (Pm (Pa (Qe rfl) (Pa (Ga underlying111 sizeOf36) ?_))))
 refine Pa (La QO) (Pa (QR rfl rfl) (Pm (QM 22 rfl (λhg22=>?_) (λhg22=>?_))))
 have f1:i<g.base\/(i=g.base/\¬t=g.baseT):=.inl (by simpa using hg22)
 refine Pk (Pk (Pk (Pk (Pk (Pk (Pk (Xp (Zx rfl rfl rfl rfl) rfl rfl (Xp (Zx rfl rfl rfl rfl) rfl rfl (Xp (Zx rfl rfl rfl rfl) rfl rfl (Xp (Zx rfl rfl rfl rfl) rfl rfl (Xp (Zx rfl rfl rfl rfl) rfl rfl (Xp (Zx rfl rfl rfl rfl) rfl rfl (Pk (Pa (Qq rfl rfl) (Ps (Qd (k14 (QD rfl (cS λ_ k15=>Qc (Ps (Qd (k15 (cE [8] (Qg (r_ ?_)))))))))))))))))))))))))
 refine Er results99 [Xd b (some ⟨bd,0,none⟩) (.slice q g.all.length cap) g,Xg bd u D,Xf u D] (by first|exact Hp.le_refl _|exact hR4) ?_
 rw[show g.instD D i t s=(1,g,D)by unfold LG.instD;rw[if_neg f0,if_pos f1]];exact⟨rfl,u,_,hva0,rfl⟩
 have f10:¬i<g.base:=by simpa using hg22
 refine Pb (Qf rfl) (Pb (Qf rfl) (Pb (Qe rfl) (Pb (Ga underlying111 sizeOf36) (Pb (La QO) (Pb (QL rfl rfl) (Pb (Qf rfl) (QM 29 rfl (λhg29=>?_) (λhg29=>?_))))))))
 have f11:i=g.base:=by simpa using hg29
 refine Pb (Qf rfl) (Pb (Qf rfl) (Pb (Qe rfl) (Pb (Ga underlying111 sizeOf36) (Pb (La QO) (Pb (Yp rfl rfl) (Pb (Qq rfl rfl) (Pa (Qn rfl rfl) (Ps (Qd (k14 (Qi rfl (λhc15=>?_) (λhc15=>?_))))))))))))
 first|have f1:i<g.base\/(i=g.base/\¬t=g.baseT):=.inr ⟨f11,by simpa using hc15⟩|skip
 refine cS λ_ k17=>Qc (Ps (Qd (k17 (Qg (r_ (Er results99 [Xd b (some ⟨bd,0,none⟩) (.slice q g.all.length cap) g,Xg bd u D,Xf u D] (by first|exact Hp.le_refl _|exact hR4) ?_))))))
 rw[show g.instD D i t s=(1,g,D)by unfold LG.instD;rw[if_neg f0,if_pos f1]];exact⟨rfl,u,_,hva0,rfl⟩
 first|have f1:¬(i<g.base\/(i=g.base/\¬t=g.baseT)):=by(try simp at hc15);omega|skip
 refine Qh (Jn hJ5 (0) (⟨f0,f1⟩))
 have f11:¬i=g.base:=by simpa using hg29
 have f1:¬(i<g.base\/(i=g.base/\¬t=g.baseT)):=by omega
 refine Pk (Pk (Pk (Pk (Pk (Pk (Pb (Qn rfl rfl) (Pa (Qn rfl rfl) (Ps (Qd (k14 (cE [0,1,2,3,15] ?_)))))))))))
 refine Qt rfl (Qh (Jn hJ5 (0) (⟨f0,f1⟩)))
end V
end Go.Proofs.YtenfjpigffjgmaaGreat
